/- Plain lists: what loops come to. -/
import Derived.Test.YtgmebdomopdgmaaG5
set_option linter.all false
namespace Go.TM
open Go Go.AM
@[simp] theorem qf {α:Type} (x:α):ok (some x)=true:=rfl
@[simp] theorem qd {α:Type} [Inhabited α] (x:α):val (some x)=x:=rfl
@[simp] theorem jH {α β:Type} (x:β):isL (some (.inr x:α ⊕ β))=false:=rfl
@[simp] theorem jA {α β:Type} (x:β):zA (some (.inr x:α ⊕ β))=some x:=rfl
theorem qK {α:Type} (b:Bool) (x y:α):cond (!b) x y=cond b y x:=by cases b<;>rfl
theorem qg {x:Int} (h1:-9223372036854775808≤x) (h2:x≤9223372036854775807):IntKind.wrap IntKind.i64 x=x:=by
 simp [IntKind.wrap,IntKind.bits,IntKind.signed]
 omega
theorem up1 {i:Nat} (h:i < 9223372036854775807):IntKind.wrap IntKind.i64 ((i:Int)+1)=((i+1:Nat):Int):=by rw [qg (by omega) (by omega)];omega
theorem dn1 {i:Nat} (h0:0 < i) (h:i≤9223372036854775807):IntKind.wrap IntKind.i64 ((i:Int) - 1)=((i - 1:Nat):Int):=by rw [qg (by omega) (by omega)];omega
theorem jV {α:Type} {l:List α} {i:Nat} (h:i < l.length) (d:α):l.drop i=l.getD i d::l.drop (i+1):=by
 rw [List.drop_eq_getElem_cons h]
 congr 1
 simp [List.getD,List.getElem?_eq_getElem h]
theorem qM {α:Type} {l:List α} {i:Nat} (h:i < l.length) (d:α):l.getD i d∈l:=by
 have:l.getD i d=l[i]:=by simp [List.getD,List.getElem?_eq_getElem h]
 rw [this];exact List.getElem_mem h
abbrev Len {α:Type} (l:List α):Prop:=l.length≤9223372036854775807
theorem gz (p q:Prop) [Decidable p] [Decidable q]:cond (decide p) (some (decide q)) (some false)=some (decide (p∧q)):=by
 by_cases h:p<;>simp [h]
theorem bne_dec (x y:Int):(x != y)=!decide (x=y):=rfl
theorem gZ (x y:Int):(x==y)=decide (x=y):=rfl
theorem qG {m:Nat} (hm:m≤9223372036854775807) (F:Nat→Int→Option (Bool ⊕ Unit)) (g:Nat→Bool)
  (hs:∀ n (i:Nat),i < m→F (n+1) (i:Int)=cond (g i) (F n ((i+1:Nat):Int)) (some (.inl false))) (he:∀ n,F (n+1) (m:Int)=some (.inr ())) :
  F FU 0=some (cond ((List.range m).all g) (.inr ()) (.inl false)):=by
 have key:∀ (k n i:Nat),i+k=m→k < n→F n (i:Int)=some (cond ((List.range' i k).all g) (.inr ()) (.inl false)):=by
  intro k
  induction k with
  | zero=>
   intro n i h1 h2
   cases n with
   | zero=>omega
   | succ n=>
    have:i=m:=by omega
    subst this
    rw [he];rfl
  | succ k ih=>
   intro n i h1 h2
   cases n with
   | zero=>omega
   | succ n=>
    rw [hs n i (by omega),ih n (i+1) (by omega) (by omega),List.range'_succ,List.all_cons]
    cases g i<;>rfl
 have:=key m FU 0 (by omega) (by unfold FU;omega)
 rw [List.range_eq_range']
 exact this
theorem gE {m:Nat} (hm:m≤9223372036854775807) (F:Nat→Int→Option (Bool ⊕ Unit)) (g:Nat→Bool)
  (hs:∀ n (i:Nat),i < m→F (n+1) (i:Int)=cond (g i) (some (.inl true)) (F n ((i+1:Nat):Int))) (he:∀ n,F (n+1) (m:Int)=some (.inr ())) :
  F FU 0=some (cond ((List.range m).any g) (.inl true) (.inr ())):=by
 have key:∀ (k n i:Nat),i+k=m→k < n→F n (i:Int)=some (cond ((List.range' i k).any g) (.inl true) (.inr ())):=by
  intro k
  induction k with
  | zero=>
   intro n i h1 h2
   cases n with
   | zero=>omega
   | succ n=>
    have:i=m:=by omega
    subst this
    rw [he];rfl
  | succ k ih=>
   intro n i h1 h2
   cases n with
   | zero=>omega
   | succ n=>
    rw [hs n i (by omega),ih n (i+1) (by omega) (by omega),List.range'_succ,List.any_cons]
    cases g i<;>rfl
 have:=key m FU 0 (by omega) (by unfold FU;omega)
 rw [List.range_eq_range']
 exact this
theorem Gg {m:Nat} (hm:m≤9223372036854775807) (F:Nat→Int→Option (Int ⊕ Unit)) (g:Nat→Bool)
  (hs:∀ n (i:Nat),i < m→F (n+1) (i:Int)=cond (g i) (some (.inl (i:Int))) (F n ((i+1:Nat):Int))) (he:∀ n,F (n+1) (m:Int)=some (.inr ())) :
  (∃ j:Nat,j < m∧F FU 0=some (.inl (j:Int))∧g j=true∧∀ i,i < j→g i=false)∨(F FU 0=some (.inr ())∧∀ i,i < m→g i=false):=by
 have key:∀ (k n i:Nat),i+k=m→k < n→(∃ j:Nat,i≤j∧j < m∧F n (i:Int)=some (.inl (j:Int))∧g j=true∧∀ x,i≤x→x < j→g x=false)∨(F n (i:Int)=some (.inr ())∧∀ x,i≤x→x < m→g x=false):=by
  intro k
  induction k with
  | zero=>
   intro n i h1 h2
   cases n with
   | zero=>omega
   | succ n=>
    have:i=m:=by omega
    subst this
    exact .inr ⟨he n,fun x h1 h2=>by omega⟩
  | succ k ih=>
   intro n i h1 h2
   cases n with
   | zero=>omega
   | succ n=>
    rw [hs n i (by omega)]
    cases hg:g i with
    | true=>exact .inl ⟨i,Nat.le_refl _,by omega,rfl,hg,fun x h1 h2=>by omega⟩
    | false=>
     rcases ih n (i+1) (by omega) (by omega) with ⟨j,h3,h4,h5,h6,h7⟩ | ⟨h3,h4⟩
     ·refine .inl ⟨j,by omega,h4,h5,h6,fun x hx1 hx2=>?_⟩
      by_cases e:x=i
      ·rw [e];exact hg
      ·exact h7 x (by omega) hx2
     ·refine .inr ⟨h3,fun x hx1 hx2=>?_⟩
      by_cases e:x=i
      ·rw [e];exact hg
      ·exact h4 x (by omega) hx2
 rcases key m FU 0 (by omega) (by unfold FU;omega) with ⟨j,h3,h4,h5,h6,h7⟩ | ⟨h3,h4⟩
 ·exact .inl ⟨j,h4,h5,h6,fun x hx=>h7 x (by omega) hx⟩
 ·exact .inr ⟨h3,fun x hx=>h4 x (by omega) hx⟩
theorem qR {α:Type} (l:List α) (d:α) (p:α→Bool):(List.range l.length).all (fun i=>p (l.getD i d))=l.all p:=by
 apply Bool.eq_iff_iff.2
 simp only [List.all_eq_true,List.mem_range]
 constructor
 ·intro h x hx
  obtain ⟨i,hi,rfl⟩:=List.getElem_of_mem hx
  have:=h i hi
  simpa [List.getD,List.getElem?_eq_getElem hi] using this
 ·intro h i hi
  exact h _ (qM hi d)
theorem jE {α:Type} (l:List α) (d:α) (p:α→Bool):(List.range l.length).any (fun i=>p (l.getD i d))=l.any p:=by
 apply Bool.eq_iff_iff.2
 simp only [List.any_eq_true,List.mem_range]
 constructor
 ·rintro ⟨i,hi,h⟩;exact ⟨_,qM hi d,h⟩
 ·rintro ⟨x,hx,h⟩
  obtain ⟨i,hi,rfl⟩:=List.getElem_of_mem hx
  exact ⟨i,hi,by simpa [List.getD,List.getElem?_eq_getElem hi] using h⟩
end Go.TM
namespace Go.Proofs.Ytgmebdomopdgmaa
open Go Go.AM Go.TM Go.Proofs
abbrev Fl:=List (List (List Int))
def fewF (Fw:Fl):Bool:=Fw.all fun f=>cond (decide (f.length≤20)) (f.all fun l=>decide (l.length≤20)) false
def fewS (Cq:List Int) (Fw:Fl) (Rq:List (List Int)) (Pq:List Int):Bool:=
 decide (Cq.length≤20)&&(decide (Fw.length≤20)&&(decide (Rq.length≤20)&&(decide (Pq.length≤20)&&(fewF Fw&&Rq.all fun l=>decide (l.length≤20)))))
theorem dgt (a:Nat):decide ((a:Int) > 20)=!decide (a≤20):=by
 by_cases h:a≤20
 ·rw [dT h,dF (by omega)];rfl
 ·rw [dF h,dT (by omega)];rfl
structure Few (Cq:List Int) (Fw:Fl) (Rq:List (List Int)) (Pq:List Int):Prop where
 hc:Cq.length≤20
 hf:Fw.length≤20
 hr:Rq.length≤20
 hp:Pq.length≤20
 flow:∀ i,(Fw.getD i []).length≤20
 path:∀ i k,((Fw.getD i []).getD k []).length≤20
 rate:∀ i,(Rq.getD i []).length≤20
def q0 (links:Int):Int→List Int→Bool
 | _,[]=>true
 | last,k::r=>cond (decide (last < k∧k < links)) (q0 links k r) false
def qY (l:List Int) (links:Int):Bool:=cond (q0 links (-1) l) (decide (1≤l.length∧l.length≤6)) false
def jN (Cq:List Int):Bool:=Cq.all fun n=>decide (0≤n∧n≤1000)
def jd (links:Int) (f:List (List Int)):Bool:=cond (decide (1≤f.length∧f.length≤4)) (f.all fun l=>qY l links) false
def qI (Cq:List Int) (Fw:Fl):Bool:=
 decide (1≤Cq.length∧Cq.length≤8)&&(decide (1≤Fw.length∧Fw.length≤8)&&(jN Cq&&Fw.all (jd Cq.length)))
end Go.Proofs.Ytgmebdomopdgmaa
namespace Go.TM
open Go Go.AM
theorem qm {m:Nat} (hm:m≤9223372036854775807) {σ ρ:Type} (F:Nat→Int→σ→Option ρ) (g:Nat→σ) (r:ρ)
  (hs:∀ n (i:Nat),i < m→F (n+1) (i:Int) (g i)=F n ((i+1:Nat):Int) (g (i+1))) (he:∀ n,F (n+1) (m:Int) (g m)=some r):F FU 0 (g 0)=some r:=by
 have key:∀ (k n i:Nat),i+k=m→k < n→F n (i:Int) (g i)=some r:=by
  intro k
  induction k with
  | zero=>
   intro n i h1 h2
   cases n with
   | zero=>omega
   | succ n=>rw [show i=m by omega];exact he n
  | succ k ih=>
   intro n i h1 h2
   cases n with
   | zero=>omega
   | succ n=>rw [hs n i (by omega)];exact ih n (i+1) (by omega) (by omega)
 exact key m FU 0 (by omega) (by unfold FU;omega)
theorem gD {m:Nat} (hm:m≤9223372036854775807) (F:Nat→Int→Option (Int ⊕ Unit)) (g:Nat→Bool)
  (hs:∀ n (i:Nat),i < m→F (n+1) (i:Int)=cond (g i) (some (.inl (i:Int))) (F n ((i+1:Nat):Int))) (he:∀ n,F (n+1) (m:Int)=some (.inr ())) :
  ∃ j:Int,cond (isL (F FU 0)) (some (zH (F FU 0))) (cond (ok (zA (F FU 0))) (some (-1:Int)) none)=some j∧decide (j≥0)=(List.range m).any g:=by
 rcases Gg hm F g hs he with ⟨j,h1,h2,h3,_⟩ | ⟨h2,h3⟩
 ·refine ⟨(j:Int),by rw [h2];rfl,?_⟩
  rw [decide_eq_true (show (j:Int)≥0 by omega),eq_comm,List.any_eq_true]
  exact ⟨j,List.mem_range.2 h1,h3⟩
 ·refine ⟨-1,by rw [h2];rfl,?_⟩
  rw [decide_eq_false (show ¬ (-1:Int)≥0 by omega),eq_comm,List.any_eq_false]
  intro x hx
  rw [h3 x (List.mem_range.1 hx)];simp
def qj:Nat→(Nat→Int)→Int
 | 0,_=>0
 | n+1,f=>qj n f+f n
theorem gX {n:Nat} {f g:Nat→Int} (h:∀ i,i < n→f i≤g i):qj n f≤qj n g:=by
 induction n with
 | zero=>exact Int.le_refl _
 | succ n ih=>exact Int.add_le_add (ih fun i hi=>h i (by omega)) (h n (by omega))
theorem jx {n:Nat} {f g:Nat→Int} (h:∀ i,i < n→f i=g i):qj n f=qj n g:=by
 induction n with
 | zero=>rfl
 | succ n ih=>simp only [qj];rw [ih fun i hi=>h i (by omega),h n (by omega)]
theorem gl (n:Nat) (c:Int):qj n (fun _=>c)=n*c:=by
 induction n with
 | zero=>simp [qj]
 | succ n ih=>simp only [qj];rw [ih];push_cast;rw [Int.add_mul];omega
theorem jW (n:Nat):qj n (fun _=>0)=0:=by rw [gl];simp
theorem gN {n:Nat} {f:Nat→Int} (h:∀ i,i < n→0≤f i):0≤qj n f:=by
 have:=gX (n:=n) (f:=fun _=>0) (g:=f) h
 rw [jW] at this;exact this
theorem jj {n m:Nat} {f:Nat→Int} {c:Int} (hn:n≤m) (h:∀ i,i < n→0≤f i∧f i≤c) (hc:0≤c):0≤qj n f∧qj n f≤m*c:=by
 refine ⟨gN fun i hi=>(h i hi).1,?_⟩
 have:=gX (n:=n) (f:=f) (g:=fun _=>c) fun i hi=>(h i hi).2
 rw [gl] at this
 exact Int.le_trans this (Int.mul_le_mul_of_nonneg_right (by omega) hc)
theorem go {p x c:Int} (hp:0 < p) (hx:0≤x) (hc:0 < c):x < Int.tdiv (c+p - 1) p↔p*x < c:=by
 rw [Int.tdiv_eq_ediv_of_nonneg (by omega)]
 have h1:=Int.mul_ediv_add_emod (c+p - 1) p
 have h2:=Int.emod_nonneg (c+p - 1) (show p≠0 by omega)
 have h3:=Int.emod_lt_of_pos (c+p - 1) hp
 constructor
 ·intro h
  have h4:p*(x+1)≤p*((c+p - 1) / p):=Int.mul_le_mul_of_nonneg_left (by omega) (by omega)
  rw [Int.mul_add,Int.mul_one] at h4
  omega
 ·intro h
  apply Int.lt_of_not_ge
  intro h4
  have h5:p*((c+p - 1) / p)≤p*x:=Int.mul_le_mul_of_nonneg_left h4 (by omega)
  omega
theorem gP {p c:Int} (hp:0 < p) (hc:0 < c):0≤Int.tdiv (c+p - 1) p∧Int.tdiv (c+p - 1) p≤c:=by
 refine ⟨?_,?_⟩
 ·rw [Int.tdiv_eq_ediv_of_nonneg (by omega)];exact Int.ediv_nonneg (by omega) (by omega)
 ·apply Int.le_of_not_gt
  intro h
  have:=(go hp (by omega) hc).1 h
  have h2:1*c≤p*c:=Int.mul_le_mul_of_nonneg_right (by omega) (by omega)
  omega
end Go.TM
namespace Go.Proofs.Ytgmebdomopdgmaa
open Go Go.AM Go.TM Go.Proofs
theorem jB (a b c:Int):v39 a b c=some (decide (b≤a∧a≤c)):=by
 unfold v39;rw [gz]
theorem gt {α:Type} (l:List α) (d:α) (p:α→Bool):(!(List.range l.length).any fun i=>!p (l.getD i d))=l.all p:=by
 rw [jE l d fun x=>!p x,← qR l d p,qR l d p]
 rw [List.all_eq_not_any_not]
theorem jT (l:List Int) (hl:Len l) (p:Int→Bool) (F:Nat→Int→Option (Int ⊕ Unit))
  (hs:∀ n (i:Nat),i < l.length→F (n+1) (i:Int)=cond (!p (l.getD i 0)) (some (.inl (i:Int))) (F n ((i+1:Nat):Int))) (he:∀ n,F (n+1) (l.length:Int)=some (.inr ())) :
  ∃ j:Int,cond (isL (F FU 0)) (some (zH (F FU 0))) (cond (ok (zA (F FU 0))) (some (-1:Int)) none)=some j∧(!decide (j≥0))=l.all p:=by
 obtain ⟨j,h1,h2⟩:=gD (m:=l.length) hl F (fun i=>!p (l.getD i 0)) hs he
 exact ⟨j,h1,by rw [h2,gt l 0 p]⟩
theorem v41_eq (l:List Int) (hl:Len l):v41 l=some (jN l):=by
 have hl':l.length≤9223372036854775807:=hl
 obtain ⟨j,h1,h2⟩:=jT l hl (fun n=>decide (0≤n∧n≤1000)) (fun n i=>Lbg n l (l.length:Int) i) (fun n i hi=>by
  show Lbg (n+1) _ _ _=_
  rw [qLbg,dT (show (i:Int) < (l.length:Int) by omega),dT (show (0:Int)≤(i:Int) by omega),up1 (by omega)]
  unfold v63 v42
  simp only [cond_true,tN,jB,qf,qd]) fun n=>by
  show Lbg (n+1) _ _ _=_
  rw [qLbg,dF (show ¬ (l.length:Int) < (l.length:Int) by omega)]
  rfl
 unfold v41 v23 v40 tv40 jN
 rw [h1]
 simp only [qf,qd,cond_true]
 exact congrArg some h2
def upto (m:Int) (l:List Int):Bool:=l.all fun n=>decide (0≤n∧n≤m)
theorem GA (l:List Int) (hl:Len l):v41_1 l=some (upto 1000000000 l):=by
 have hl':l.length≤9223372036854775807:=hl
 obtain ⟨j,h1,h2⟩:=jT l hl (fun n=>decide (0≤n∧n≤1000000000)) (fun n i=>Lbf n l (l.length:Int) i) (fun n i hi=>by
  show Lbf (n+1) _ _ _=_
  rw [qLbf,dT (show (i:Int) < (l.length:Int) by omega),dT (show (0:Int)≤(i:Int) by omega),up1 (by omega)]
  unfold v63_1 v60
  simp only [cond_true,tN,jB,qf,qd]) fun n=>by
  show Lbf (n+1) _ _ _=_
  rw [qLbf,dF (show ¬ (l.length:Int) < (l.length:Int) by omega)]
  rfl
 unfold v41_1 v23_1 v40_1 tv40_1 upto
 rw [h1]
 simp only [qf,qd,cond_true]
 exact congrArg some h2
theorem GH (l:List Int) (hl:Len l):v41_2 l=some (upto 1000000000000 l):=by
 have hl':l.length≤9223372036854775807:=hl
 obtain ⟨j,h1,h2⟩:=jT l hl (fun n=>decide (0≤n∧n≤1000000000000)) (fun n i=>Lbe n l (l.length:Int) i) (fun n i hi=>by
  show Lbe (n+1) _ _ _=_
  rw [qLbe,dT (show (i:Int) < (l.length:Int) by omega),dT (show (0:Int)≤(i:Int) by omega),up1 (by omega)]
  unfold v63_2 v61
  simp only [cond_true,tN,jB,qf,qd]) fun n=>by
  show Lbe (n+1) _ _ _=_
  rw [qLbe,dF (show ¬ (l.length:Int) < (l.length:Int) by omega)]
  rfl
 unfold v41_2 v23_2 v40_2 tv40_2 upto
 rw [h1]
 simp only [qf,qd,cond_true]
 exact congrArg some h2
theorem l38 (l:List Int) (links:Int) (hl:Len l):∀ (k n i:Nat) (last:Int),i+k=l.length→k < n→
  Lbm n l links last l (l.length:Int) (i:Int)=some (cond (q0 links last (l.drop i)) (.inr ()) (.inl false)):=by
 intro k
 induction k with
 | zero=>
  intro n i last h1 h2
  cases n with
  | zero=>omega
  | succ n=>
   rw [qLbm,dF (show ¬ ((i:Int) < (l.length:Int)) by omega),List.drop_of_length_le (show l.length≤i by omega)]
   rfl
 | succ k ih=>
  intro n i last h1 h2
  cases n with
  | zero=>omega
  | succ n=>
   have hi:i < l.length:=by omega
   have hl':l.length≤9223372036854775807:=hl
   rw [qLbm,dT (show (i:Int) < (l.length:Int) by omega),dT (show (0:Int)≤(i:Int) by omega),up1 (by omega)]
   simp only [cond_true,tN]
   rw [jV hi 0,q0,ih n (i+1) _ (by omega) (by omega)]
   by_cases c1:l.getD i 0≤last
   ·rw [dT c1,dF (show ¬ (last < l.getD i 0∧l.getD i 0 < links) by omega)];rfl
   rw [dF c1]
   by_cases c2:l.getD i 0≥links
   ·rw [dT c2,dF (show ¬ (last < l.getD i 0∧l.getD i 0 < links) by omega)];rfl
   rw [dF c2,dT (show last < l.getD i 0∧l.getD i 0 < links by omega)]
   rfl
theorem v47_eq (l:List Int) (links:Int) (hl:Len l):v47 l links=some (qY l links):=by
 unfold v47 tv47 qY
 have h:=l38 l links hl l.length FU 0 (-1) (by omega) (by have:l.length≤9223372036854775807:=hl;unfold FU;omega)
 simp only [Int.natCast_zero,List.drop_zero] at h
 rw [h]
 cases q0 links (-1) l with
 | false=>rfl
 | true=>
  simp only [cond_true,jH,jA,qf,qd,cond_false,jB]
  congr 1
  apply decide_eq_decide.2
  constructor<;>intro h<;>omega
theorem v45_eq (f:List (List Int)) (Cq:List Int) (Fw:Fl) (hl:f.length≤20) (hp:∀ k,(f.getD k []).length≤20):v45 f Cq Fw=some (f.all fun l=>qY l Cq.length):=by
 obtain ⟨j,h1,h2⟩:=gD (m:=f.length) (by omega) (fun n i=>Lbc n f (f.length:Int) i Cq Fw) (fun i=>!qY (f.getD i []) Cq.length) (fun n i hi=>by
  have:=hp i
  show Lbc (n+1) _ _ _ _ _=_
  rw [qLbc,dT (show (i:Int) < (f.length:Int) by omega),dT (show (0:Int)≤(i:Int) by omega),up1 (by omega)]
  unfold v67 v46
  simp only [cond_true,tN]
  rw [v47_eq _ _ (show (f.getD i []).length≤9223372036854775807 by omega)]
  simp only [qf,qd,cond_true]) fun n=>by
  show Lbc (n+1) _ _ _ _ _=_
  rw [qLbc,dF (show ¬ (f.length:Int) < (f.length:Int) by omega)]
  rfl
 have h3:=gt f [] fun l=>qY l Cq.length
 unfold v45 v66 v78 tv78
 rw [h1]
 simp only [qf,qd,cond_true]
 exact congrArg some ((congrArg (!·) h2).trans h3)
theorem v43_eq (Cq:List Int) (Fw:Fl) (hl:Fw.length≤20) (hf:∀ i,(Fw.getD i []).length≤20) (hp:∀ i k,((Fw.getD i []).getD k []).length≤20):v43 Fw Cq Fw=some (Fw.all (jd Cq.length)):=by
 obtain ⟨j,h1,h2⟩:=gD (m:=Fw.length) (by omega) (fun n i=>Lbj n Fw (Fw.length:Int) i Cq Fw) (fun i=>!jd Cq.length (Fw.getD i [])) (fun n i hi=>by
  show Lbj (n+1) _ _ _ _ _=_
  rw [qLbj,dT (show (i:Int) < (Fw.length:Int) by omega),dT (show (0:Int)≤(i:Int) by omega),up1 (by omega)]
  have hv:v44 (Fw.getD i []) Cq Fw=some (jd Cq.length (Fw.getD i [])):=by
   unfold v44 tv44 jd
   rw [jB,v45_eq _ _ _ (hf i) (hp i)]
   by_cases c1:1≤(Fw.getD i []).length∧(Fw.getD i []).length≤4
   ·rw [dT c1,dT (show (1:Int)≤((Fw.getD i []).length:Int)∧((Fw.getD i []).length:Int)≤4 by omega)];rfl
   ·rw [dF c1,dF (show ¬ ((1:Int)≤((Fw.getD i []).length:Int)∧((Fw.getD i []).length:Int)≤4) by omega)];rfl
  unfold v65
  simp only [cond_true,tN,hv,qf,qd]) fun n=>by
  show Lbj (n+1) _ _ _ _ _=_
  rw [qLbj,dF (show ¬ (Fw.length:Int) < (Fw.length:Int) by omega)]
  rfl
 have h3:=gt Fw [] fun f=>jd Cq.length f
 unfold v43 v64 v77 tv77
 rw [h1]
 simp only [qf,qd,cond_true]
 exact congrArg some ((congrArg (!·) h2).trans h3)
theorem Gi {Cq:List Int} {Fw:Fl} {Rq:List (List Int)} {Pq:List Int} (h:Few Cq Fw Rq Pq):v25 Cq Fw=some (qI Cq Fw):=by
 unfold v25 tv25 qI
 have hc:=h.hc
 rw [jB,jB,v41_eq Cq (show Cq.length≤9223372036854775807 by omega),v43_eq Cq Fw h.hf h.flow h.path]
 simp only [qf,qd,cond_true,qK]
 by_cases c1:1≤Cq.length∧Cq.length≤8
 case neg=>rw [dF c1,dF (show ¬ ((1:Int)≤(Cq.length:Int)∧(Cq.length:Int)≤8) by omega)];rfl
 rw [dT c1,dT (show (1:Int)≤(Cq.length:Int)∧(Cq.length:Int)≤8 by omega)]
 by_cases c2:1≤Fw.length∧Fw.length≤8
 case neg=>rw [dF c2,dF (show ¬ ((1:Int)≤(Fw.length:Int)∧(Fw.length:Int)≤8) by omega)];rfl
 rw [dT c2,dT (show (1:Int)≤(Fw.length:Int)∧(Fw.length:Int)≤8 by omega)]
 simp only [cond_true,Bool.true_and]
 cases jN Cq<;>rfl
def q9 (Fw:Fl) (Rq:List (List Int)):Bool:=decide (Rq.length=Fw.length)&&(List.range Rq.length).all fun i=>cond (decide ((Rq.getD i []).length=(Fw.getD i []).length)) (upto 1000000000 (Rq.getD i [])) false
def qT (Cq Pq:List Int):Bool:=decide (Pq.length=Cq.length)&&upto 1000000000000 Pq
theorem js {α β:Type} (a:List α) (b:List β):((a.length:Int) != (b.length:Int))=!decide (a.length=b.length):=by
 rw [bne_dec]
 congr 1
 apply decide_eq_decide.2
 omega
theorem v36_eq {Cq:List Int} {Fw:Fl} {Rq:List (List Int)} {Pq:List Int} (h:Few Cq Fw Rq Pq):v36 Cq Fw Rq Pq=some (q9 Fw Rq&&qT Cq Pq):=by
 have hp:=h.hp
 have hr:=h.hr
 unfold v36 tv36 q9 qT
 rw [js,js,GH Pq (show Pq.length≤9223372036854775807 by omega)]
 simp only [qK,qf,qd,cond_true]
 by_cases c1:Rq.length=Fw.length
 case neg=>rw [dF c1];rfl
 rw [dT c1]
 have hL:Lba FU Pq Rq (Rq.length:Int) 0 Cq Fw=some (cond ((List.range Rq.length).all fun i=>cond (decide ((Rq.getD i []).length=(Fw.getD i []).length)) (upto 1000000000 (Rq.getD i [])) false) (.inr ()) (.inl false)):=by
  refine qG (m:=Rq.length) (by omega) (fun n j=>Lba n Pq Rq (Rq.length:Int) j Cq Fw) _ (fun n i hi=>?_) fun n=>?_
  ·show Lba (n+1) _ _ _ _ _ _=_
   have:=h.rate i
   rw [qLba,dT (show (i:Int) < (Rq.length:Int) by omega),dT (show (0:Int)≤(i:Int) by omega),dT (show (i:Int) < (Fw.length:Int) by omega),up1 (by omega)]
   simp only [cond_true,tN]
   rw [js,GA _ (show (Rq.getD i []).length≤9223372036854775807 by omega)]
   simp only [qK,qf,qd,cond_true]
   cases decide ((Rq.getD i []).length=(Fw.getD i []).length)<;>rfl
  ·show Lba (n+1) _ _ _ _ _ _=_
   rw [qLba,dF (show ¬ (Rq.length:Int) < (Rq.length:Int) by omega)]
   rfl
 rw [hL]
 cases decide (Pq.length=Cq.length) with
 | false=>simp
 | true=>
  simp only [cond_true,Bool.true_and]
  cases (List.range Rq.length).all fun i=>cond (decide ((Rq.getD i []).length=(Fw.getD i []).length)) (upto 1000000000 (Rq.getD i [])) false<;>rfl
def tab (c:Nat) (f:Nat→Int):List Int:=(List.range c).map f
@[simp] theorem qp (c:Nat) (f:Nat→Int):(tab c f).length=c:=by simp [tab]
theorem qC {c k:Nat} (f:Nat→Int) (h:k < c):(tab c f).getD k 0=f k:=by
 simp [tab,List.getD,List.getElem?_map,List.getElem?_range h]
theorem qq {c:Nat} {f g:Nat→Int} (h:∀ k,k < c→f k=g k):tab c f=tab c g:=by
 unfold tab
 exact List.map_congr_left fun k hk=>h k (List.mem_range.1 hk)
theorem jp {c p:Nat} (f:Nat→Int) (v:Int):(tab c f).set p v=tab c fun k=>if k=p then v else f k:=by
 apply List.ext_getElem?
 intro k
 rw [List.getElem?_set]
 by_cases hk:k < c
 ·simp only [tab,List.length_map,List.length_range,List.getElem?_map,List.getElem?_range hk,Option.map_some]
  by_cases h:p=k
  ·subst h;simp [hk]
  ·rw [if_neg h,if_neg (show ¬ k=p from fun e=>h e.symm)]
 ·simp [tab,List.getElem?_eq_none (l:=List.range c) (i:=k) (by simp;omega)]
  omega
theorem jI (c:Nat):List.replicate c (0:Int)=tab c fun _=>0:=by
 apply List.ext_getElem?
 intro k
 by_cases hk:k < c<;>simp [tab,hk,List.getElem?_replicate]
abbrev pth (Fw:Fl) (i k:Nat):List Int:=(Fw.getD i []).getD k []
abbrev rt (Rq:List (List Int)) (i k:Nat):Int:=(Rq.getD i []).getD k 0
def pk (l:List Int) (r:Int) (k:Nat):Int:=qj l.length fun t=>cond (l.getD t 0==(k:Int)) r 0
def qQ (Fw:Fl) (Rq:List (List Int)) (k:Nat):Int:=qj Fw.length fun i=>qj (Fw.getD i []).length fun t=>pk (pth Fw i t) (rt Rq i t) k
def qx (r:List Int):Int:=qj r.length fun t=>r.getD t 0
def qF (l Pq:List Int):Int:=qj l.length fun t=>Pq.getD (Int.toNat (l.getD t 0)) 0
def qN (Cq Pq:List Int):Int:=qj Pq.length fun k=>Pq.getD k 0*Cq.getD k 0
def qP (Cq:List Int) (Fw:Fl) (Rq:List (List Int)):Bool:=(List.range Cq.length).all fun k=>decide (qQ Fw Rq k≤1000000*Cq.getD k 0)
def jl (Fw:Fl) (Rq:List (List Int)) (Pq:List Int):Bool:=(List.range Fw.length).all fun i=>(List.range (Fw.getD i []).length).all fun t=>decide (1000000000000≤qF (pth Fw i t) Pq*qx (Rq.getD i []))
def jm (Cq:List Int) (Fw:Fl) (Rq:List (List Int)) (Pq:List Int):Bool:=qP Cq Fw Rq&&jl Fw Rq Pq
theorem jZ {links:Int}:∀ {l:List Int} {last:Int},q0 links last l=true→(∀ j,j < l.length→last < l.getD j 0∧l.getD j 0 < links)∧∀ a b,a < b→b < l.length→l.getD a 0 < l.getD b 0
 | [],last,_=>⟨fun j hj=>absurd hj (Nat.not_lt_zero j),fun a b _ hb=>absurd hb (Nat.not_lt_zero b)⟩
 | x::r,last,h=>by
  unfold q0 at h
  by_cases c:last < x∧x < links
  ·rw [dT c] at h
   obtain ⟨h1,h2⟩:=jZ h
   refine ⟨fun j hj=>?_,fun a b hab hb=>?_⟩
   ·cases j with
    | zero=>exact c
    | succ j=>
     have:=h1 j (by simpa using hj)
     have e:(x::r).getD (j+1) 0=r.getD j 0:=by simp
     rw [e];omega
   ·cases b with
    | zero=>omega
    | succ b=>
     have e:(x::r).getD (b+1) 0=r.getD b 0:=by simp
     have hb':b < r.length:=by simpa using hb
     rw [e]
     cases a with
     | zero=>exact (h1 b hb').1
     | succ a=>
      have e:(x::r).getD (a+1) 0=r.getD a 0:=by simp
      rw [e]
      exact h2 a b (by omega) hb'
  ·rw [dF c] at h;cases h
structure Ok (Cq:List Int) (Fw:Fl) (Rq:List (List Int)) (Pq:List Int):Prop where
 few:Few Cq Fw Rq Pq
 c1:1≤Cq.length∧Cq.length≤8
 f1:1≤Fw.length∧Fw.length≤8
 cap:∀ k,0≤Cq.getD k 0∧Cq.getD k 0≤1000
 sub:∀ i,i < Fw.length→1≤(Fw.getD i []).length∧(Fw.getD i []).length≤4
 hop:∀ i t,i < Fw.length→t < (Fw.getD i []).length→1≤(pth Fw i t).length∧(pth Fw i t).length≤6
 link:∀ i t j,i < Fw.length→t < (Fw.getD i []).length→j < (pth Fw i t).length→0≤(pth Fw i t).getD j 0∧(pth Fw i t).getD j 0 < (Cq.length:Int)
 inc:∀ i t a b,i < Fw.length→t < (Fw.getD i []).length→a < b→b < (pth Fw i t).length→(pth Fw i t).getD a 0 < (pth Fw i t).getD b 0
 rl:Rq.length=Fw.length
 rli:∀ i,i < Fw.length→(Rq.getD i []).length=(Fw.getD i []).length
 rate:∀ i t,0≤rt Rq i t∧rt Rq i t≤1000000000
 pl:Pq.length=Cq.length
 price:∀ k,0≤Pq.getD k 0∧Pq.getD k 0≤1000000000000
theorem jL {m:Int} (hm:0≤m) {l:List Int} (h:upto m l=true) (k:Nat):0≤l.getD k 0∧l.getD k 0≤m:=by
 by_cases hk:k < l.length
 ·have:=List.all_eq_true.1 h _ (qM hk 0)
  simpa using this
 ·rw [List.getD_eq_getElem?_getD,List.getElem?_eq_none (by omega)]
  exact ⟨Int.le_refl _,hm⟩
theorem ok_of {Cq:List Int} {Fw:Fl} {Rq:List (List Int)} {Pq:List Int} (hf:Few Cq Fw Rq Pq) (h1:qI Cq Fw=true) (h2:q9 Fw Rq=true) (h3:qT Cq Pq=true):Ok Cq Fw Rq Pq:=by
 unfold qI at h1
 unfold q9 at h2
 unfold qT at h3
 simp only [Bool.and_eq_true,decide_eq_true_eq] at h1 h2 h3
 obtain ⟨hc,hfl,hcs,hfs⟩:=h1
 obtain ⟨hr1,hr2⟩:=h2
 obtain ⟨hp1,hp2⟩:=h3
 have hflow:∀ i,i < Fw.length→(1≤(Fw.getD i []).length∧(Fw.getD i []).length≤4)∧∀ t,t < (Fw.getD i []).length→qY (pth Fw i t) Cq.length=true:=by
  intro i hi
  have:=List.all_eq_true.1 hfs _ (qM hi [])
  unfold jd at this
  by_cases c:1≤(Fw.getD i []).length∧(Fw.getD i []).length≤4
  ·rw [dT c] at this
   exact ⟨c,fun t ht=>List.all_eq_true.1 this _ (qM ht [])⟩
  ·rw [dF c] at this;cases this
 have hpath:∀ i t,i < Fw.length→t < (Fw.getD i []).length→q0 Cq.length (-1) (pth Fw i t)=true∧1≤(pth Fw i t).length∧(pth Fw i t).length≤6:=by
  intro i t hi ht
  have:=(hflow i hi).2 t ht
  unfold qY at this
  cases hx:q0 Cq.length (-1) (pth Fw i t) with
  | false=>rw [hx] at this;cases this
  | true=>rw [hx] at this;exact ⟨rfl,by simpa using this⟩
 have hrt:∀ i,i < Fw.length→(Rq.getD i []).length=(Fw.getD i []).length∧upto 1000000000 (Rq.getD i [])=true:=by
  intro i hi
  have:=List.all_eq_true.1 hr2 i (List.mem_range.2 (by omega))
  by_cases c:(Rq.getD i []).length=(Fw.getD i []).length
  ·rw [dT c] at this;exact ⟨c,this⟩
  ·rw [dF c] at this;cases this
 refine ⟨hf,hc,hfl,fun k=>jL (by omega) hcs k,fun i hi=>(hflow i hi).1,fun i t hi ht=>(hpath i t hi ht).2,fun i t j hi ht hj=>?_,fun i t a b hi ht hab hb=>(jZ (hpath i t hi ht).1).2 a b hab hb,hr1,fun i hi=>(hrt i hi).1,fun i t=>?_,hp1,fun k=>jL (by omega) hp2 k⟩
 ·have:=(jZ (hpath i t hi ht).1).1 j hj
  omega
 ·by_cases hi:i < Fw.length
  ·exact jL (by omega) (hrt i hi).2 t
  ·have e:Rq.getD i []=[]:=by rw [List.getD_eq_getElem?_getD,List.getElem?_eq_none (by omega)];rfl
   show 0≤(Rq.getD i []).getD t 0∧(Rq.getD i []).getD t 0≤_
   rw [e];simp
section
variable {Cq : List Int} {Fw : Fl} {Rq : List (List Int)} {Pq : List Int} (h : Ok Cq Fw Rq Pq)
include h
theorem pk_bd {l:List Int} {r:Int} (hl:l.length≤20) (hr:0≤r∧r≤1000000000) (k:Nat):0≤pk l r k∧pk l r k≤20*1000000000:=by
 unfold pk
 exact jj hl (fun t _=>by cases (l.getD t 0==(k:Int))<;>simp<;>omega) (by omega)
theorem gn {i j:Nat} (hj:j≤20) (k:Nat):0≤qj j (fun t=>pk (pth Fw i t) (rt Rq i t) k)∧qj j (fun t=>pk (pth Fw i t) (rt Rq i t) k)≤20*(20*1000000000):=
 jj hj (fun t _=>pk_bd h (h.few.path i t) (h.rate i t) k) (by omega)
theorem gW {j:Nat} (hj:j≤20) (k:Nat):0≤qj j (fun i=>qj (Fw.getD i []).length fun t=>pk (pth Fw i t) (rt Rq i t) k)∧qj j (fun i=>qj (Fw.getD i []).length fun t=>pk (pth Fw i t) (rt Rq i t) k)≤20*(20*(20*1000000000)):=
 jj hj (fun i _=>gn h (h.few.flow i) k) (by omega)
theorem gK {i j:Nat} (hj:j≤20):0≤qj j (fun t=>rt Rq i t)∧qj j (fun t=>rt Rq i t)≤20*1000000000:=
 jj hj (fun t _=>h.rate i t) (by omega)
omit h in
theorem pk_succ (l:List Int) (r:Int) (k j:Nat):qj (j+1) (fun t=>cond (l.getD t 0==(k:Int)) r 0)=qj j (fun t=>cond (l.getD t 0==(k:Int)) r 0)+cond (l.getD j 0==(k:Int)) r 0:=rfl
theorem l37_16 {i t:Nat} (hi:i < Fw.length) (ht:t < (Fw.getD i []).length) {r:Int} (hr:0≤r∧r≤1000000000) (f:Nat→Int) (hf:∀ k,0≤f k∧f k≤100000000000000) (y:List Int) :
  LaD FU (pth Fw i t) ((pth Fw i t).length:Int) 0 (pth Fw i t) r (tab Cq.length f) y=some (tab Cq.length fun k=>f k+pk (pth Fw i t) r k):=by
 have hl:=(h.hop i t hi ht).2
 have:=qm (m:=(pth Fw i t).length) (by omega) (fun n j (s:List Int)=>LaD n (pth Fw i t) ((pth Fw i t).length:Int) j (pth Fw i t) r s y)
  (fun j=>tab Cq.length fun k=>f k+qj j fun t'=>cond ((pth Fw i t).getD t' 0==(k:Int)) r 0) (tab Cq.length fun k=>f k+pk (pth Fw i t) r k) (fun n j hj=>?_) fun n=>?_
 ·simp only [qj,Int.add_zero] at this
  exact this
 ·show LaD (n+1) _ _ _ _ _ _ _=LaD n _ _ _ _ _ _ _
  have hk:=h.link i t j hi ht hj
  obtain ⟨p,hp⟩:∃ p:Nat,(pth Fw i t).getD j 0=(p:Int):=⟨Int.toNat ((pth Fw i t).getD j 0),by omega⟩
  have hpc:p < Cq.length:=by omega
  rw [qLaD,dT (show (j:Int) < ((pth Fw i t).length:Int) by omega),dT (show (0:Int)≤(j:Int) by omega),up1 (by omega)]
  simp only [cond_true,tN,hp,qp]
  rw [dT (show (0:Int)≤(p:Int) by omega),dT (show (p:Int) < (Cq.length:Int) by omega),dT hpc,qC _ hpc,jp]
  simp only [cond_true]
  congr 1
  apply qq
  intro k hkc
  have hb:=jj (n:=j) (m:=20) (f:=fun t'=>cond ((pth Fw i t).getD t' 0==(p:Int)) r 0) (c:=1000000000) (by omega) (fun t' _=>by cases ((pth Fw i t).getD t' 0==(p:Int))<;>simp<;>omega) (by omega)
  have hfp:=hf p
  rw [pk_succ,hp]
  by_cases hkp:k=p
  ·subst hkp
   rw [if_pos rfl,qg (by omega) (by omega)]
   simp;omega
  ·rw [if_neg hkp,show ((p:Int)==(k:Int))=false from beq_false_of_ne (by omega)]
   simp
 ·show LaD (n+1) _ _ _ _ _ _ _=_
  rw [qLaD,dF (show ¬ ((pth Fw i t).length:Int) < ((pth Fw i t).length:Int) by omega)]
  rfl
def Ld (Cq:List Int) (Fw:Fl) (Rq:List (List Int)) (i j:Nat):List Int:=tab Cq.length fun k=>qj i (fun q=>qj (Fw.getD q []).length fun t=>pk (pth Fw q t) (rt Rq q t) k)+qj j fun t=>pk (pth Fw i t) (rt Rq i t) k
def Sm (Fw:Fl) (Rq:List (List Int)) (i j:Nat):List Int:=tab Fw.length fun q=>if q < i then qj (Fw.getD q []).length (fun t=>rt Rq q t) else if q=i then qj j (fun t=>rt Rq i t) else 0
theorem vR_eq {i t:Nat} (hi:i < Fw.length) (ht:t < (Fw.getD i []).length):vR (i:Int) (pth Fw i t) (rt Rq i t) (Ld Cq Fw Rq i t) (Sm Fw Rq i t)=some (Ld Cq Fw Rq i (t+1),Sm Fw Rq i (t+1)):=by
 unfold vR
 have h4:=(h.sub i hi).2
 have hr:=h.rate i t
 have hsl:(Sm Fw Rq i t).length=Fw.length:=by simp [Sm]
 rw [dT (show (0:Int)≤(i:Int) by omega),hsl,dT (show (i:Int) < (Fw.length:Int) by omega)]
 simp only [cond_true,tN]
 rw [dT hi]
 have e1:List.set (Sm Fw Rq i t) i (IntKind.wrap IntKind.i64 ((Sm Fw Rq i t).getD i 0+rt Rq i t))=Sm Fw Rq i (t+1):=by
  unfold Sm
  rw [qC _ hi,jp]
  apply qq
  intro q hq
  have hb:=gK h (i:=i) (j:=t) (by omega)
  by_cases hqi:q=i
  ·subst hqi
   rw [if_pos rfl,if_neg (Nat.lt_irrefl q),if_pos rfl,if_neg (Nat.lt_irrefl q),if_pos rfl,qg (by omega) (by omega)]
   rfl
  ·rw [if_neg hqi,if_neg hqi,if_neg hqi]
 have e2:=l37_16 h hi ht hr (fun k=>qj i (fun q=>qj (Fw.getD q []).length fun t=>pk (pth Fw q t) (rt Rq q t) k)+qj t fun t=>pk (pth Fw i t) (rt Rq i t) k)
  (fun k=>by
   have:=gW h (j:=i) (by have:=h.few.hf;omega) k
   have:=gn h (i:=i) (j:=t) (by omega) k
   omega) (Sm Fw Rq i (t+1))
 simp only [cond_true]
 rw [e1]
 unfold Ld
 rw [e2]
 simp only [qf,qd,cond_true]
 congr 1
 rw [Prod.mk.injEq]
 refine ⟨qq fun k hk=>?_,rfl⟩
 simp only [qj]
 omega
theorem l76_16 {i:Nat} (hi:i < Fw.length):Laq FU (i:Int) Fw (Fw.length:Int) (i:Int) (Fw.getD i []) ((Fw.getD i []).length:Int) 0 (Ld Cq Fw Rq i 0) (Sm Fw Rq i 0) Cq Fw Rq=some (Ld Cq Fw Rq i (Fw.getD i []).length,Sm Fw Rq i (Fw.getD i []).length):=by
 have h4:=(h.sub i hi).2
 have hrl:=h.rli i hi
 have hr:=h.rl
 refine qm (m:=(Fw.getD i []).length) (by omega) (fun n j (s:List Int×List Int)=>Laq n (i:Int) Fw (Fw.length:Int) (i:Int) (Fw.getD i []) ((Fw.getD i []).length:Int) j s.1 s.2 Cq Fw Rq)
  (fun j=>(Ld Cq Fw Rq i j,Sm Fw Rq i j)) (Ld Cq Fw Rq i (Fw.getD i []).length,Sm Fw Rq i (Fw.getD i []).length) (fun n j hj=>?_) fun n=>?_
 ·show Laq (n+1) _ _ _ _ _ _ _ _ _ _ _ _=Laq n _ _ _ _ _ _ _ _ _ _ _ _
  have hv:=vR_eq h hi hj
  rw [qLaq,dT (show (j:Int) < ((Fw.getD i []).length:Int) by omega),dT (show (0:Int)≤(j:Int) by omega),dT (show (0:Int)≤(i:Int) by omega),dT (show (i:Int) < (Rq.length:Int) by omega),up1 (by omega)]
  simp only [cond_true,tN]
  rw [dT (show (j:Int) < ((Rq.getD i []).length:Int) by omega),hv]
  simp only [cond_true,qf,qd]
 ·show Laq (n+1) _ _ _ _ _ _ _ _ _ _ _ _=_
  rw [qLaq,dF (show ¬ ((Fw.getD i []).length:Int) < ((Fw.getD i []).length:Int) by omega)]
  rfl
omit h in
theorem Ld_next (i:Nat):Ld Cq Fw Rq i (Fw.getD i []).length=Ld Cq Fw Rq (i+1) 0:=by
 unfold Ld
 apply qq
 intro k hk
 simp only [qj,Int.add_zero]
omit h in
theorem Sm_next (i:Nat):Sm Fw Rq i (Fw.getD i []).length=Sm Fw Rq (i+1) 0:=by
 unfold Sm
 apply qq
 intro q hq
 by_cases h1:q < i
 ·rw [if_pos h1,if_pos (by omega)]
 rw [if_neg h1]
 by_cases h2:q=i
 ·subst h2;rw [if_pos rfl,if_pos (by omega)]
 rw [if_neg h2,if_neg (by omega)]
 split<;>rfl
theorem v76_eq:v76 (List.replicate Cq.length 0) (List.replicate Fw.length 0) Cq Fw Rq=some (tab Cq.length (qQ Fw Rq),tab Fw.length fun i=>qx (Rq.getD i [])):=by
 have hf:=h.few.hf
 have h0:LaZ FU Fw (Fw.length:Int) 0 (Ld Cq Fw Rq 0 0) (Sm Fw Rq 0 0) Cq Fw Rq=some (Ld Cq Fw Rq Fw.length 0,Sm Fw Rq Fw.length 0):=by
  refine qm (m:=Fw.length) (by omega) (fun n j (s:List Int×List Int)=>LaZ n Fw (Fw.length:Int) j s.1 s.2 Cq Fw Rq)
   (fun j=>(Ld Cq Fw Rq j 0,Sm Fw Rq j 0)) (Ld Cq Fw Rq Fw.length 0,Sm Fw Rq Fw.length 0) (fun n i hi=>?_) fun n=>?_
  ·show LaZ (n+1) _ _ _ _ _ _ _ _=LaZ n _ _ _ _ _ _ _ _
   rw [qLaZ,dT (show (i:Int) < (Fw.length:Int) by omega),dT (show (0:Int)≤(i:Int) by omega),up1 (by omega)]
   simp only [cond_true,tN]
   rw [l76_16 h hi]
   simp only [cond_true,qf,qd]
   rw [Ld_next,Sm_next]
  ·show LaZ (n+1) _ _ _ _ _ _ _ _=_
   rw [qLaZ,dF (show ¬ (Fw.length:Int) < (Fw.length:Int) by omega)]
   rfl
 have e1:List.replicate Cq.length (0:Int)=Ld Cq Fw Rq 0 0:=jI _
 have e2:List.replicate Fw.length (0:Int)=Sm Fw Rq 0 0:=by
  rw [jI];unfold Sm
  apply qq
  intro q _
  rw [if_neg (by omega)]
  split<;>rfl
 have e3:Ld Cq Fw Rq Fw.length 0=tab Cq.length (qQ Fw Rq):=qq fun k _=>Int.add_zero _
 have e4:Sm Fw Rq Fw.length 0=tab Fw.length fun i=>qx (Rq.getD i []):=by
  apply qq
  intro q hq
  rw [if_pos hq]
  unfold qx
  rw [h.rli q hq]
 unfold v76 tv76
 rw [e1,e2,h0]
 simp only [qf,qd,cond_true,e3,e4]
theorem gg {i t j:Nat} (hj:j≤20):0≤qj j (fun x=>Pq.getD (Int.toNat ((pth Fw i t).getD x 0)) 0)∧qj j (fun x=>Pq.getD (Int.toNat ((pth Fw i t).getD x 0)) 0)≤20*1000000000000:=
 jj hj (fun x _=>h.price _) (by omega)
theorem l37_64 {i t:Nat} (hi:i < Fw.length) (ht:t < (Fw.getD i []).length) (b:Bool) (y:List Int):Laj FU (i:Int) 0 (pth Fw i t) ((pth Fw i t).length:Int) 0 Pq b y=some (qF (pth Fw i t) Pq):=by
 have hl:=(h.hop i t hi ht).2
 refine qm (m:=(pth Fw i t).length) (by omega) (fun n j (s:Int)=>Laj n (i:Int) s (pth Fw i t) ((pth Fw i t).length:Int) j Pq b y)
  (fun j=>qj j fun x=>Pq.getD (Int.toNat ((pth Fw i t).getD x 0)) 0) (qF (pth Fw i t) Pq) (fun n j hj=>?_) fun n=>?_
 ·show Laj (n+1) _ _ _ _ _ _ _ _=Laj n _ _ _ _ _ _ _ _
  have hk:=h.link i t j hi ht hj
  have hpl:=h.pl
  have hb:=gg h (i:=i) (t:=t) (j:=j+1) (by omega)
  have hs:qj (j+1) (fun x=>Pq.getD (Int.toNat ((pth Fw i t).getD x 0)) 0)=qj j (fun x=>Pq.getD (Int.toNat ((pth Fw i t).getD x 0)) 0)+Pq.getD (Int.toNat ((pth Fw i t).getD j 0)) 0:=rfl
  rw [qLaj,dT (show (j:Int) < ((pth Fw i t).length:Int) by omega),dT (show (0:Int)≤(j:Int) by omega),up1 (by omega)]
  simp only [cond_true,tN]
  rw [dT hk.1,dT (show (pth Fw i t).getD j 0 < (Pq.length:Int) by omega),← hs,qg (by omega) (by omega)]
  rfl
 ·show Laj (n+1) _ _ _ _ _ _ _ _=_
  rw [qLaj,dF (show ¬ ((pth Fw i t).length:Int) < ((pth Fw i t).length:Int) by omega)]
  rfl
theorem gu {i t:Nat}:0≤qF (pth Fw i t) Pq∧qF (pth Fw i t) Pq≤20*1000000000000:=gg h (h.few.path i t)
theorem Ga (i:Nat):0≤qx (Rq.getD i [])∧qx (Rq.getD i [])≤20*1000000000:=gK h (i:=i) (h.few.rate i)
theorem vR_1_eq {i t:Nat} (hi:i < Fw.length) (ht:t < (Fw.getD i []).length) (x:Int) (b:Bool):vR_1 (i:Int) (pth Fw i t) x Pq b (tab Fw.length fun i=>qx (Rq.getD i []))=
  some (cond (decide (1000000000000≤qF (pth Fw i t) Pq*qx (Rq.getD i []))) (.inr ()) (.inl ())):=by
 unfold vR_1
 rw [l37_64 h hi ht,qf,qd]
 have hp:=gu h (i:=i) (t:=t)
 have hx:=Ga h i
 simp only [qf,qd,cond_true,qp,tN]
 rw [dT (show (0:Int)≤(i:Int) by omega),dT (show (i:Int) < (Fw.length:Int) by omega),dT hi,gZ]
 simp only [cond_true,qC (fun i=>qx (Rq.getD i [])) hi]
 generalize hP:qF (pth Fw i t) Pq=p at*
 generalize hX:qx (Rq.getD i [])=y at*
 by_cases c:p=0
 ·rw [dT c,c,dF (show ¬ (1000000000000:Int)≤0*y by omega)];rfl
 rw [dF c,@dT _ _ (show p≠0 from c)]
 have hc:=go (p:=p) (x:=y) (c:=1000000000000) (by omega) (by omega) (by omega)
 have hc2:=gP (p:=p) (c:=1000000000000) (by omega) (by omega)
 have w1:IntKind.wrap IntKind.i64 (1000000000000+p)=1000000000000+p:=qg (by omega) (by omega)
 have w2:IntKind.wrap IntKind.i64 (1000000000000+p - 1)=1000000000000+p - 1:=qg (by omega) (by omega)
 have w3:IntKind.wrap IntKind.i64 (Int.tdiv (1000000000000+p - 1) p)=Int.tdiv (1000000000000+p - 1) p:=qg (by omega) (by omega)
 simp only [cond_true,cond_false,w1,w2,w3]
 by_cases c2:p*y < 1000000000000
 ·rw [dT (hc.2 c2),dF (show ¬ 1000000000000≤p*y by omega)];rfl
 ·rw [dF (show ¬ _ from fun e=>c2 (hc.1 e)),dT (show 1000000000000≤p*y by omega)];rfl
theorem Gz (b:Bool):v76_1 Pq b (tab Fw.length fun i=>qx (Rq.getD i [])) Cq Fw Rq=some (cond (jl Fw Rq Pq) (.inr ()) (.inl false)):=by
 have hf:=h.few.hf
 have hr:=h.rl
 have h0:LaX FU Fw (Fw.length:Int) 0 Pq b (tab Fw.length fun i=>qx (Rq.getD i [])) Cq Fw Rq=some (cond (jl Fw Rq Pq) (.inr ()) (.inl false)):=by
  unfold jl
  refine qG (m:=Fw.length) (by omega) (fun n j=>LaX n Fw (Fw.length:Int) j Pq b (tab Fw.length fun i=>qx (Rq.getD i [])) Cq Fw Rq) _ (fun n i hi=>?_) fun n=>?_
  ·show LaX (n+1) _ _ _ _ _ _ _ _ _=_
   have h4:=(h.sub i hi).2
   have hrl:=h.rli i hi
   have h1:Laz FU (i:Int) Fw (Fw.length:Int) (i:Int) (Fw.getD i []) ((Fw.getD i []).length:Int) 0 Pq b (tab Fw.length fun i=>qx (Rq.getD i [])) Cq Fw Rq=some (cond ((List.range (Fw.getD i []).length).all fun t=>decide (1000000000000≤qF (pth Fw i t) Pq*qx (Rq.getD i []))) (.inr ()) (.inl false)):=by
    refine qG (m:=(Fw.getD i []).length) (by omega) (fun n j=>Laz n (i:Int) Fw (Fw.length:Int) (i:Int) (Fw.getD i []) ((Fw.getD i []).length:Int) j Pq b (tab Fw.length fun i=>qx (Rq.getD i [])) Cq Fw Rq) _ (fun n j hj=>?_) fun n=>?_
    ·show Laz (n+1) _ _ _ _ _ _ _ _ _ _ _ _ _=_
     have hv:=vR_1_eq h hi hj (rt Rq i j) b
     rw [qLaz,dT (show (j:Int) < ((Fw.getD i []).length:Int) by omega),dT (show (0:Int)≤(j:Int) by omega),dT (show (0:Int)≤(i:Int) by omega),dT (show (i:Int) < (Rq.length:Int) by omega),up1 (by omega)]
     simp only [cond_true,tN]
     rw [dT (show (j:Int) < ((Rq.getD i []).length:Int) by omega),hv]
     cases decide (1000000000000≤qF (pth Fw i j) Pq*qx (Rq.getD i []))<;>rfl
    ·show Laz (n+1) _ _ _ _ _ _ _ _ _ _ _ _ _=_
     rw [qLaz,dF (show ¬ ((Fw.getD i []).length:Int) < ((Fw.getD i []).length:Int) by omega)]
     rfl
   rw [qLaX,dT (show (i:Int) < (Fw.length:Int) by omega),dT (show (0:Int)≤(i:Int) by omega),up1 (by omega)]
   simp only [cond_true,tN]
   rw [h1]
   cases (List.range (Fw.getD i []).length).all fun t=>decide (1000000000000≤qF (pth Fw i t) Pq*qx (Rq.getD i []))<;>rfl
  ·show LaX (n+1) _ _ _ _ _ _ _ _ _=_
   rw [qLaX,dF (show ¬ (Fw.length:Int) < (Fw.length:Int) by omega)]
   rfl
 unfold v76_1 tv76_1
 rw [h0]
 cases jl Fw Rq Pq<;>rfl
theorem v37_eq:v37 Cq Fw Rq Pq=some (jm Cq Fw Rq Pq):=by
 have hc:=h.few.hc
 have hf:=h.few.hf
 have hn:∀ n:Nat,Int.toNat (n:Int)=n:=fun n=>tN n
 unfold v37 tv37 jm
 rw [hn,hn,v76_eq h]
 rw [dT (show (Cq.length:Int)≤(Cq.length:Int) by omega),dT (show (Cq.length:Int)≤((2147483648:Nat):Int) by omega),dT (show (Fw.length:Int)≤(Fw.length:Int) by omega),dT (show (Fw.length:Int)≤((2147483648:Nat):Int) by omega)]
 simp only [qf,qd,cond_true,qp]
 have h0:LaR FU Rq (Cq.length:Int) 0 Cq Fw (tab Fw.length fun i=>qx (Rq.getD i [])) false (tab Cq.length (qQ Fw Rq)) Pq=some (cond (qP Cq Fw Rq) (.inr ()) (.inl false)):=by
  unfold qP
  refine qG (m:=Cq.length) (by omega) (fun n j=>LaR n Rq (Cq.length:Int) j Cq Fw (tab Fw.length fun i=>qx (Rq.getD i [])) false (tab Cq.length (qQ Fw Rq)) Pq) _ (fun n k hk=>?_) fun n=>?_
  ·show LaR (n+1) _ _ _ _ _ _ _ _ _=_
   have hcap:=h.cap k
   rw [qLaR,dT (show (k:Int) < (Cq.length:Int) by omega),dT (show (0:Int)≤(k:Int) by omega),up1 (by omega)]
   simp only [cond_true,tN,qp]
   rw [dT (show (k:Int) < (Cq.length:Int) by omega),dT hk]
   have w1:IntKind.wrap IntKind.i64 (1000000*Cq.getD k 0)=1000000*Cq.getD k 0:=qg (by omega) (by omega)
   simp only [cond_true,qC (qQ Fw Rq) hk,w1]
   by_cases c:qQ Fw Rq k≤1000000*Cq.getD k 0
   ·rw [dT c,dF (show ¬ qQ Fw Rq k > 1000000*Cq.getD k 0 by omega)];rfl
   ·rw [dF c,dT (show qQ Fw Rq k > 1000000*Cq.getD k 0 by omega)];rfl
  ·show LaR (n+1) _ _ _ _ _ _ _ _ _=_
   rw [qLaR,dF (show ¬ (Cq.length:Int) < (Cq.length:Int) by omega)]
   rfl
 rw [h0,Gz h]
 cases qP Cq Fw Rq with
 | false=>rfl
 | true=>cases jl Fw Rq Pq<;>rfl
theorem jy {j:Nat} (hj:j≤20):0≤qj j (fun k=>Pq.getD k 0*Cq.getD k 0)∧qj j (fun k=>Pq.getD k 0*Cq.getD k 0)≤20*(1000000000000*1000):=
 jj hj (fun k _=>by
  have hp:=h.price k
  have hc:=h.cap k
  exact ⟨Int.mul_nonneg hp.1 hc.1,Int.le_trans (Int.mul_le_mul_of_nonneg_right hp.2 hc.1) (Int.mul_le_mul_of_nonneg_left hc.2 (by omega))⟩) (by omega)
theorem v38_eq:v38 Cq Fw Pq=some (qN Cq Pq):=by
 have hp:=h.few.hp
 have hpl:=h.pl
 have h0:Lbh FU 0 Pq (Pq.length:Int) 0 Cq Fw=some (qN Cq Pq):=by
  refine qm (m:=Pq.length) (by omega) (fun n j (s:Int)=>Lbh n s Pq (Pq.length:Int) j Cq Fw) (fun j=>qj j fun k=>Pq.getD k 0*Cq.getD k 0) (qN Cq Pq) (fun n k hk=>?_) fun n=>?_
  ·show Lbh (n+1) _ _ _ _ _ _=Lbh n _ _ _ _ _ _
   have hb:=jy h (j:=k+1) (by omega)
   have hb0:=jy h (j:=k) (by omega)
   have hs:qj (k+1) (fun k=>Pq.getD k 0*Cq.getD k 0)=qj k (fun k=>Pq.getD k 0*Cq.getD k 0)+Pq.getD k 0*Cq.getD k 0:=rfl
   have hk1:=h.price k
   have hk2:=h.cap k
   have hm0:0≤Pq.getD k 0*Cq.getD k 0:=Int.mul_nonneg hk1.1 hk2.1
   rw [qLbh,dT (show (k:Int) < (Pq.length:Int) by omega),dT (show (0:Int)≤(k:Int) by omega),dT (show (k:Int) < (Cq.length:Int) by omega),up1 (by omega)]
   simp only [cond_true,tN]
   rw [qg (x:=Pq.getD k 0*Cq.getD k 0) (by omega) (by omega),← hs,qg (by omega) (by omega)]
  ·show Lbh (n+1) _ _ _ _ _ _=_
   rw [qLbh,dF (show ¬ (Pq.length:Int) < (Pq.length:Int) by omega)]
   rfl
 unfold v38 tv38
 rw [h0];rfl
end
def qX (Cq:List Int) (Fw:Fl) (Rq:List (List Int)) (Pq:List Int):Int×Int:=
 cond (qI Cq Fw&&(q9 Fw Rq&&qT Cq Pq)) (cond (jm Cq Fw Rq Pq) (cond (decide (max 0 (qN Cq Pq - 1000000*(Fw.length:Int))≤1000000000000)) (max 0 (qN Cq Pq - 1000000*(Fw.length:Int)),0) (0,3)) (0,17)) (0,1)
theorem v21_eq {Cq:List Int} {Fw:Fl} {Rq:List (List Int)} {Pq:List Int} (hf:Few Cq Fw Rq Pq):v21 Cq Fw Rq Pq=some (qX Cq Fw Rq Pq):=by
 unfold v21 tv21 qX
 rw [Gi hf,v36_eq hf]
 simp only [qf,qd,cond_true,qK]
 cases h1:qI Cq Fw with
 | false=>rfl
 | true=>
  cases h2:q9 Fw Rq with
  | false=>rfl
  | true=>
   cases h3:qT Cq Pq with
   | false=>rfl
   | true=>
    have h:=ok_of hf h1 h2 h3
    have hc:=jy h (j:=Pq.length) hf.hp
    have hfl:=hf.hf
    have hc':0≤qN Cq Pq∧qN Cq Pq≤20*(1000000000000*1000):=hc
    rw [v37_eq h,v38_eq h]
    simp only [qf,qd,cond_true,Bool.and_self]
    have w1:IntKind.wrap IntKind.i64 (1000000*(Fw.length:Int))=1000000*(Fw.length:Int):=qg (by omega) (by omega)
    have w2:IntKind.wrap IntKind.i64 (qN Cq Pq - 1000000*(Fw.length:Int))=qN Cq Pq - 1000000*(Fw.length:Int):=qg (by omega) (by omega)
    simp only [w1,w2]
    cases jm Cq Fw Rq Pq with
    | false=>rfl
    | true=>
     simp only [cond_true]
     generalize max 0 (qN Cq Pq - 1000000*(Fw.length:Int))=g
     by_cases c:g≤1000000000000
     ·rw [dT c,dF (show ¬ g > 1000000000000 by omega)];rfl
     ·rw [dF c,dT (show g > 1000000000000 by omega)];rfl
def checkS (Cq:List Int) (Fw:Fl) (Rq:List (List Int)) (Pq:List Int) (gap:Int):Bool:=
 decide ((qX Cq Fw Rq Pq).2=0∧(qX Cq Fw Rq Pq).1≤gap∧gap≤1000000000000)
theorem qw {α:Type} {p:Prop} {inst:Decidable p} (h:p) (a b:α):cond (@decide p inst) a b=a:=by rw [dT h];rfl
def qz {α:Type} (g:α→Int):List α→Int
 | []=>0
 | x::l=>g x+qz g l
section
variable {α : Type}
theorem gI (g:α→Int):∀ (a b:List α),qz g (a++b)=qz g a+qz g b
 | [],b=>by simp [qz]
 | x::a,b=>by simp only [List.cons_append,qz,gI g a b];omega
theorem qJ (l:List α) (d:α) {i:Nat} (h:i < l.length):l.take (i+1)=l.take i++[l.getD i d]:=by
 rw [List.take_add_one,List.getD_eq_getElem?_getD,List.getElem?_eq_getElem h];rfl
theorem ju (g:α→Int) (l:List α) (d:α) {i:Nat} (h:i < l.length):qz g (l.take (i+1))=qz g (l.take i)+g (l.getD i d):=by
 rw [qJ l d h,gI];simp [qz]
theorem gV {g:α→Int} {c:Int}:∀ {l:List α},(∀ x∈l,0≤g x∧g x≤c)→0≤qz g l∧qz g l≤l.length*c
 | [],_=>by simp [qz]
 | x::l,h=>by
  have h1:=h x List.mem_cons_self
  have h2:=gV (l:=l) fun y hy=>h y (List.mem_cons_of_mem _ hy)
  have e:((x::l).length:Int)*c=(l.length:Int)*c+c:=by
   rw [List.length_cons,Int.natCast_add,Int.add_mul];simp
  rw [e];simp only [qz];omega
theorem qZ {g:α→Int} {c:Int} {m:Nat} (hc:0≤c) {l:List α} (hl:l.length≤m) (h:∀ x∈l,0≤g x∧g x≤c):0≤qz g l∧qz g l≤m*c:=by
 have h1:=gV h
 have h2:(l.length:Int)*c≤(m:Int)*c:=Int.mul_le_mul_of_nonneg_right (by omega) hc
 omega
theorem jO {g:α→Int}:∀ {l:List α},(∀ x∈l,0≤g x)→∀ {x},x∈l→g x≤qz g l
 | y::l,h,x,hx=>by
  have h1:=h y List.mem_cons_self
  have h2:0≤qz g l:=by
   clear hx
   induction l with
   | nil=>exact Int.le_refl _
   | cons z l ih=>
    have:=h z (by simp)
    have:=ih fun w hw=>h w (by rcases List.mem_cons.1 hw with e | e<;>simp [e])
    simp only [qz];omega
  rcases List.mem_cons.1 hx with rfl | hx
  ·simp only [qz];omega
  ·have:=jO (l:=l) (fun w hw=>h w (List.mem_cons_of_mem _ hw)) hx
   simp only [qz];omega
theorem gj {f g:α→Int}:∀ {l:List α},(∀ x∈l,f x=g x)→qz f l=qz g l
 | [],_=>rfl
 | x::l,h=>by simp only [qz];rw [h x List.mem_cons_self,gj fun y hy=>h y (List.mem_cons_of_mem _ hy)]
theorem gG {l:List α} {i:Nat} {x:α} (h:x∈l.take i):x∈l:=List.mem_of_mem_take h
theorem qB (l:List α):l.take l.length=l:=List.take_length
def jc (g:α→Int) (o:Int) (y:α):Int:=min o (g y)
def minL (g:α→Int):List α→Int
 | []=>0
 | x::l=>l.foldl (jc g) (g x)
theorem j4 (g:α→Int):∀ (l:List α) (o:Int),l.foldl (jc g) o≤o∧(∀ x∈l,l.foldl (jc g) o≤g x)∧(l.foldl (jc g) o=o∨∃ x∈l,l.foldl (jc g) o=g x)
 | [],o=>⟨Int.le_refl _,(fun x hx=>nomatch hx),.inl rfl⟩
 | y::l,o=>by
  obtain ⟨h1,h2,h3⟩:=j4 g l (jc g o y)
  have m1:jc g o y≤o:=Int.min_le_left _ _
  have m2:jc g o y≤g y:=Int.min_le_right _ _
  refine ⟨Int.le_trans h1 m1,fun x hx=>?_,?_⟩
  ·rcases List.mem_cons.1 hx with rfl | hx
   ·exact Int.le_trans h1 m2
   ·exact h2 x hx
  ·rcases h3 with h3 | ⟨x,hx,h3⟩
   ·simp only [List.foldl_cons,h3]
    unfold jc
    rcases Int.le_total o (g y) with c | c
    ·exact .inl (Int.min_eq_left c)
    ·exact .inr ⟨y,List.mem_cons_self,Int.min_eq_right c⟩
   ·exact .inr ⟨x,List.mem_cons_of_mem _ hx,h3⟩
theorem gS {g:α→Int}:∀ {l:List α} {x:α},x∈l→minL g l≤g x
 | y::l,x,hx=>by
  obtain ⟨h1,h2,_⟩:=j4 g l (g y)
  rcases List.mem_cons.1 hx with rfl | hx
  ·exact h1
  ·exact h2 x hx
theorem j8 {g:α→Int}:∀ {l:List α},0 < l.length→∃ x∈l,minL g l=g x
 | y::l,_=>by
  obtain ⟨_,_,h3⟩:=j4 g l (g y)
  rcases h3 with h3 | ⟨x,hx,h3⟩
  ·exact ⟨y,List.mem_cons_self,h3⟩
  ·exact ⟨x,List.mem_cons_of_mem _ hx,h3⟩
theorem jw {σ:Type} (f:σ→α→σ) (s:σ) (l:List α) (d:α) {i:Nat} (h:i < l.length):(l.take (i+1)).foldl f s=f ((l.take i).foldl f s) (l.getD i d):=by
 rw [qJ l d h,List.foldl_append];rfl
end
structure Nw (Cq:List Int) (Fw:List (List Int)):Prop where
 f1:1≤Fw.length
 nf:Fw.length≤8
 lk:Cq.length≤8
 cp:∀ t,0≤Cq.getD t 0∧Cq.getD t 0≤1000
 h1:∀ f∈Fw,1≤f.length∧f.length≤6
 nd:∀ f∈Fw,f.Nodup
 rg:∀ f∈Fw,∀ k∈f,0≤k∧k < (Cq.length:Int)
def qU (Fw:List (List Int)) (t:Nat):Prop:=∃ f∈Fw,(t:Int)∈f
def Fit (Cq:List Int) (Fw:List (List Int)):Prop:=∀ t,qU Fw t→1≤Cq.getD t 0
structure Wt (n:Nat) (Fw:List (List Int)) (ws:List Int):Prop where
 len:ws.length=n
 bd:∀ t,0≤ws.getD t 0∧ws.getD t 0≤100000
 us:∀ t,1≤ws.getD t 0↔qU Fw t
def wS (ws fl:List Int):Int:=qz (fun k=>ws.getD k.toNat 0) fl
def ql (ws fl:List Int):Int:=Int.tdiv 1000000000 (wS ws fl)
def onS (t:Nat) (p:Int) (fl:List Int):Int:=if (t:Int)∈fl then p else 0
def qe (ws:List Int) (Fw:List (List Int)) (t:Nat):Int:=qz (fun fl=>onS t (ql ws fl) fl) Fw
def qi (ws:List Int) (Fw:List (List Int)):List Int:=tab ws.length (qe ws Fw)
theorem jq {Fw:List (List Int)} {f:List Int} (hf:f∈Fw) {k:Int} (hk:k∈f) (h0:0≤k):qU Fw k.toNat:=⟨f,hf,by rw [Int.toNat_of_nonneg h0];exact hk⟩
section
variable {Cq : List Int} {Fw : List (List Int)} {ws : List Int} (hn : Nw Cq Fw) (hw : Wt Cq.length Fw ws)
include hn hw
theorem jR {f:List Int} (hf:f∈Fw):1≤wS ws f∧wS ws f≤600000∧∀ k∈f,1≤ws.getD k.toNat 0∧ws.getD k.toNat 0≤wS ws f:=by
 have h1:=qZ (g:=fun k=>ws.getD k.toNat 0) (c:=100000) (m:=6) (by omega) (hn.h1 f hf).2 fun k hk=>hw.bd _
 have hall:∀ k∈f,1≤ws.getD k.toNat 0∧ws.getD k.toNat 0≤wS ws f:=fun k hk=>
  ⟨(hw.us _).2 (jq hf hk (hn.rg f hf k hk).1),jO (g:=fun k=>ws.getD k.toNat 0) (fun y _=>(hw.bd _).1) hk⟩
 refine ⟨?_,by have:=h1.2;unfold wS;omega,hall⟩
 have hl:=(hn.h1 f hf).1
 obtain ⟨k,hk⟩:=List.exists_mem_of_length_pos (by omega:0 < f.length)
 have:=hall k hk
 omega
theorem ja {f:List Int} (hf:f∈Fw):1000≤ql ws f∧ql ws f≤1000000000:=by
 obtain ⟨h1,h2,_⟩:=jR hn hw hf
 unfold ql
 rw [Int.tdiv_eq_ediv_of_nonneg (by omega)]
 constructor
 ·rw [Int.le_ediv_iff_mul_le (by omega)];omega
 ·exact Int.ediv_le_self _ (by omega)
theorem gx {f:List Int} (hf:f∈Fw) (t:Nat):0≤onS t (ql ws f) f∧onS t (ql ws f) f≤1000000000:=by
 have:=ja hn hw hf
 unfold onS
 split<;>omega
theorem jf (t:Nat):0≤qe ws Fw t∧qe ws Fw t≤8000000000:=by
 have:=qZ (g:=fun fl=>onS t (ql ws fl) fl) (c:=1000000000) (m:=8) (by omega) hn.nf fun f hf=>gx hn hw hf t
 exact ⟨this.1,by have:=this.2;unfold qe;omega⟩
theorem gq {f:List Int} (hf:f∈Fw) {t:Nat} (ht:(t:Int)∈f):ql ws f≤qe ws Fw t:=by
 have:=jO (g:=fun fl=>onS t (ql ws fl) fl) (fun y hy=>(gx hn hw hy t).1) hf
 unfold qe
 have e:onS t (ql ws f) f=ql ws f:=by unfold onS;rw [if_pos ht]
 omega
theorem jz {t:Nat} (ht:qU Fw t):1000≤qe ws Fw t:=by
 obtain ⟨f,hf,h⟩:=ht
 have:=gq hn hw hf h
 have:=ja hn hw hf
 omega
omit hn hw in
theorem jv (l:List (List Int)) {i:Nat} (h:i < l.length):l.getD i []∈l:=qM h []
omit hn in
theorem v71_eq {x:Int} (hx:0≤x∧x < (Cq.length:Int)) (lim ld:List Int):v71 x Cq Fw lim ws ld=some (ws.getD x.toNat 0):=by
 have hl:=hw.len
 unfold v71 tv71
 rw [dT hx.1,dT (show x < (ws.length:Int) by omega),dT (show x.toNat < ws.length by omega)]
 rfl
theorem v70_eq {f:List Int} (hf:f∈Fw) (lim ld:List Int):v70 f Cq Fw lim ws ld=some (wS ws f):=by
 have hl:=hn.h1 f hf
 have h0:Lbd FU 0 f (f.length:Int) 0 Cq Fw lim ws ld=some (wS ws f):=by
  refine qm (m:=f.length) (by omega) (fun n j (s:Int)=>Lbd n s f (f.length:Int) j Cq Fw lim ws ld) (fun j=>qz (fun k=>ws.getD k.toNat 0) (f.take j)) (wS ws f) (fun n j hj=>?_) (fun n=>?_)
  ·show Lbd (n+1) _ _ _ _ _ _ _ _ _=Lbd n _ _ _ _ _ _ _ _ _
   have hb:=qZ (g:=fun k=>ws.getD k.toNat 0) (c:=100000) (m:=6) (by omega) (l:=f.take (j+1)) (by rw [List.length_take];omega) fun k hk=>hw.bd _
   have e71:=v71_eq hw (x:=f.getD j 0) (hn.rg f hf _ (qM hj 0)) lim ld
   rw [ju (fun k=>ws.getD k.toNat 0) f 0 hj] at hb ⊢
   rw [qLbd,dT (show (j:Int) < (f.length:Int) by omega),dT (show (0:Int)≤(j:Int) by omega),up1 (by omega)]
   simp only [cond_true,tN]
   rw [e71,qf,qd,cond_true,qg (by omega) (by omega)]
  ·show Lbd (n+1) _ _ _ _ _ _ _ _ _=_
   rw [qLbd,dF (show ¬ (f.length:Int) < (f.length:Int) by omega),qB]
   rfl
 unfold v70 tv70
 rw [h0];rfl
theorem gk {f:List Int} (hf:f∈Fw) (lim ld:List Int):v52 f Cq Fw lim ws ld=some (wS ws f):=by
 unfold v52
 rw [v70_eq hn hw hf lim ld];rfl
omit hw in
theorem l48_16 {f:List Int} (hf:f∈Fw) {p:Int} (hp:0≤p∧p≤1000000000) (x0:List (List Int)) (x2 x3:Int) (lim:List Int) (A:Nat→Int) (hA:∀ t,0≤A t∧A t≤100000000000) :
  Las FU p x0 x2 x3 f (f.length:Int) 0 Cq Fw lim ws (tab Cq.length A)=some (tab Cq.length fun t=>A t+onS t p f):=by
 have hl:=hn.h1 f hf
 have hnd:=hn.nd f hf
 have e0:tab Cq.length A=tab Cq.length fun t=>A t+onS t p (f.take 0):=qq fun t _=>by simp [onS]
 rw [e0]
 refine qm (m:=f.length) (by omega) (fun n j (s:List Int)=>Las n p x0 x2 x3 f (f.length:Int) j Cq Fw lim ws s) (fun j=>tab Cq.length fun t=>A t+onS t p (f.take j)) _ (fun n j hj=>?_) (fun n=>?_)
 ·show Las (n+1) _ _ _ _ _ _ _ _ _ _ _ _=Las n _ _ _ _ _ _ _ _ _ _ _ _
  have hr:=hn.rg f hf _ (qM hj 0)
  have hk:(f.getD j 0).toNat < Cq.length:=by omega
  have hv:=hA (f.getD j 0).toNat
  have hnot:¬ f.getD j 0∈f.take j:=by
   intro hm
   obtain ⟨i,hi,e⟩:=List.getElem_of_mem hm
   have hi2:i < j:=by rw [List.length_take] at hi;omega
   rw [List.getElem_take] at e
   have:f.getD j 0=f[j]:=by rw [List.getD_eq_getElem?_getD,List.getElem?_eq_getElem hj];rfl
   rw [this] at e
   exact List.pairwise_iff_getElem.1 hnd i j (by omega) hj hi2 e
  rw [qLas,dT (show (j:Int) < (f.length:Int) by omega),dT (show (0:Int)≤(j:Int) by omega),up1 (by omega)]
  simp only [cond_true,tN,qp]
  rw [dT hr.1,dT hr.2,dT hk,qC _ hk]
  have ez:onS (f.getD j 0).toNat p (f.take j)=0:=by unfold onS;rw [Int.toNat_of_nonneg hr.1,if_neg hnot]
  rw [ez,qg (by omega) (by omega),jp]
  have et:(tab Cq.length fun k=>if k=(f.getD j 0).toNat then A (f.getD j 0).toNat+0+p else A k+onS k p (f.take j))=tab Cq.length fun t=>A t+onS t p (f.take (j+1)):=by
   refine qq fun k _=>?_
   rw [qJ f 0 hj]
   by_cases c:k=(f.getD j 0).toNat
   ·have:(k:Int)=f.getD j 0:=by omega
    rw [if_pos c,c];unfold onS;rw [if_pos (by rw [Int.toNat_of_nonneg hr.1];simp)];omega
   ·rw [if_neg c]
    have hne:(k:Int)≠f.getD j 0:=by omega
    unfold onS
    by_cases hm:(k:Int)∈f.take j
    ·rw [if_pos hm,if_pos (by simp [hm])]
    ·rw [if_neg hm,if_neg (by simp only [List.mem_append,List.mem_singleton];rintro (h | h);exact hm h;exact hne h)]
  simp only [et,cond_true]
 ·show Las (n+1) _ _ _ _ _ _ _ _ _ _ _ _=_
  rw [qLas,dF (show ¬ (f.length:Int) < (f.length:Int) by omega),qB]
  rfl
theorem Gv (lim:List Int):v48 Cq Fw lim ws=some (qi ws Fw):=by
 have hf:=hn.nf
 have hlk:=hn.lk
 have hlw:=hw.len
 have h0:LaJ FU Fw (Fw.length:Int) 0 Cq Fw lim ws (List.replicate (Int.toNat (ws.length:Int)) 0)=some (qi ws Fw):=by
  rw [tN,jI,hlw]
  unfold qi
  rw [hlw]
  refine qm (m:=Fw.length) (by omega) (fun n j (s:List Int)=>LaJ n Fw (Fw.length:Int) j Cq Fw lim ws s) (fun j=>tab Cq.length (qe ws (Fw.take j))) _ (fun n j hj=>?_) (fun n=>?_)
  ·show LaJ (n+1) _ _ _ _ _ _ _ _=LaJ n _ _ _ _ _ _ _ _
   have hm:=jv Fw hj
   have hp:=ja hn hw hm
   have hw1:=jR hn hw hm
   have hpe:Int.tdiv 1000000000 (wS ws (Fw.getD j []))=ql ws (Fw.getD j []):=rfl
   have e:=l48_16 (ws:=ws) hn hm (p:=ql ws (Fw.getD j [])) ⟨by omega,hp.2⟩ Fw (Fw.length:Int) (j:Int) lim (qe ws (Fw.take j)) fun t=>by
    have:=qZ (g:=fun fl=>onS t (ql ws fl) fl) (c:=1000000000) (m:=8) (by omega) (l:=Fw.take j) (by rw [List.length_take];omega) fun f hf=>gx hn hw (gG hf) t
    exact ⟨this.1,by have:=this.2;unfold qe;omega⟩
   rw [qLaJ,dT (show (j:Int) < (Fw.length:Int) by omega),dT (show (0:Int)≤(j:Int) by omega),up1 (by omega)]
   simp only [cond_true,tN]
   simp only [gk hn hw hm lim,qf,qd,cond_true]
   refine (qw (p:=wS ws (Fw.getD j [])≠0) (by omega) _ _).trans ?_
   have et:(tab Cq.length fun t=>qe ws (Fw.take j) t+onS t (ql ws (Fw.getD j [])) (Fw.getD j []))=tab Cq.length (qe ws (Fw.take (j+1))):=by
    refine qq fun t _=>?_
    unfold qe
    rw [ju _ Fw [] hj]
   rw [hpe,qg (by omega) (by omega),e,qf,qd,cond_true,et]
  ·show LaJ (n+1) _ _ _ _ _ _ _ _=_
   rw [qLaJ,dF (show ¬ (Fw.length:Int) < (Fw.length:Int) by omega),qB]
   rfl
 unfold v48 tv48
 rw [h0,dT (Int.le_refl _),dT (show (ws.length:Int)≤((nat_lit 2147483648:Nat):Int) by show (ws.length:Int)≤((2147483648:Nat):Int);omega)]
 rfl
end
def qD (Cq ws:List Int) (Fw:List (List Int)) (f:List Int) (k:Int):Int:=Int.tdiv (ql ws f*Cq.getD k.toNat 0*1000000) (qe ws Fw k.toNat)
def qA (Cq ws:List Int) (Fw:List (List Int)) (f:List Int):Int:=minL (qD Cq ws Fw f) f
def qO (Cq ws:List Int) (Fw:List (List Int)) (f:List Int):Int:=wS ws f*qA Cq ws Fw f
def qn (Cq ws:List Int) (Fw:List (List Int)):Int:=minL (qO Cq ws Fw) Fw
def qy (Cq ws:List Int) (Fw:List (List Int)):List (List Int):=Fw.map fun f=>[qA Cq ws Fw f]
def qH (p w:Int):Int:=Int.tdiv (w*1000000000000+p - 1) p
def qo (Cq ws:List Int) (Fw:List (List Int)):List Int:=ws.map (qH (qn Cq ws Fw))
def qr (Fw:List (List Int)):Fl:=Fw.map fun f=>[f]
abbrev Cert:=List (List Int)×List Int×Int×Bool
def qt (Cq ws:List Int) (Fw:List (List Int)):Cert:=
 if qn Cq ws Fw=0 then ([],[],0,false)
 else (qy Cq ws Fw,qo Cq ws Fw,(qX Cq (qr Fw) (qy Cq ws Fw) (qo Cq ws Fw)).1,decide ((qX Cq (qr Fw) (qy Cq ws Fw) (qo Cq ws Fw)).2=0))
theorem qS {α β:Type} (g:α→β) (l:List α) (d:α) (e:β) (i:Nat):(l.map g).getD i e=if i < l.length then g (l.getD i d) else e:=by
 by_cases h:i < l.length
 ·rw [if_pos h,List.getD_eq_getElem?_getD,List.getElem?_map,List.getD_eq_getElem?_getD,List.getElem?_eq_getElem h];rfl
 ·rw [if_neg h,List.getD_eq_getElem?_getD,List.getElem?_eq_none (by rw [List.length_map];omega)];rfl
theorem Gf (Cq lim:List Int) {Fw:List (List Int)} (hf:Fw.length≤20):v26 Cq Fw lim=some (qr Fw):=by
 have h0:Lbl FU Fw (Fw.length:Int) 0 Cq [] [] []=some (qr Fw):=by
  refine qm (m:=Fw.length) (by omega) (fun n j (s:List (List (List Int)))=>Lbl n Fw (Fw.length:Int) j Cq [] [] s) (fun j=>qr (Fw.take j)) _ (fun n j hj=>?_) (fun n=>?_)
  ·show Lbl (n+1) _ _ _ _ _ _ _=Lbl n _ _ _ _ _ _ _
   rw [qLbl,dT (show (j:Int) < (Fw.length:Int) by omega),dT (show (0:Int)≤(j:Int) by omega),up1 (by omega)]
   simp only [cond_true,tN]
   refine (qw (by unfold qr;simp only [List.length_map,List.length_take,List.length_singleton];show _≤2147483648;omega) _ _).trans ?_
   have e:qr (Fw.take j)++[[Fw.getD j []]]=qr (Fw.take (j+1)):=by unfold qr;rw [qJ Fw [] hj,List.map_append];rfl
   rw [e]
  ·show Lbl (n+1) _ _ _ _ _ _ _=_
   rw [qLbl,dF (show ¬ (Fw.length:Int) < (Fw.length:Int) by omega),qB]
   rfl
 unfold v26 tv26
 rw [h0];rfl
section
variable {Cq : List Int} {Fw : List (List Int)} {ws : List Int} (hn : Nw Cq Fw) (hw : Wt Cq.length Fw ws)
include hn hw
theorem Gj {f:List Int} (hf:f∈Fw) {k:Int} (hk:k∈f):0≤qD Cq ws Fw f k∧qD Cq ws Fw f k≤Cq.getD k.toNat 0*1000000:=by
 have hp:=ja hn hw hf
 have hc:=hn.cp k.toNat
 have hr:=hn.rg f hf k hk
 have hL:=gq hn hw hf (t:=k.toNat) (by rw [Int.toNat_of_nonneg hr.1];exact hk)
 unfold qD
 generalize ql ws f=p at*
 generalize Cq.getD k.toNat 0=c at*
 generalize qe ws Fw k.toNat=L at*
 have h0:0≤p*c:=Int.mul_nonneg (by omega) hc.1
 have h1:p*c≤L*c:=Int.mul_le_mul_of_nonneg_right hL hc.1
 rw [Int.tdiv_eq_ediv_of_nonneg (by omega)]
 constructor
 ·exact Int.ediv_nonneg (by omega) (by omega)
 ·refine Int.ediv_le_of_le_mul (by omega) ?_
  have e:c*1000000*L=L*c*1000000:=by rw [Int.mul_comm L c,Int.mul_assoc,Int.mul_assoc,Int.mul_comm 1000000 L]
  omega
theorem jD {f:List Int} (hf:f∈Fw) {k:Int} (hk:k∈f):0≤qD Cq ws Fw f k∧qD Cq ws Fw f k≤1000000000:=by
 have h:=Gj hn hw hf hk
 have:=hn.cp k.toNat
 omega
theorem gf {f:List Int} (hf:f∈Fw):0≤qA Cq ws Fw f∧qA Cq ws Fw f≤1000000000:=by
 obtain ⟨k,hk,e⟩:=j8 (g:=qD Cq ws Fw f) (l:=f) (by have:=hn.h1 f hf;omega)
 unfold qA
 rw [e]
 exact jD hn hw hf hk
theorem j6 {f:List Int} (hf:f∈Fw):0≤qO Cq ws Fw f∧qO Cq ws Fw f≤600000000000000:=by
 have h1:=jR hn hw hf
 have h2:=gf hn hw hf
 unfold qO
 have:=Int.mul_nonneg (show 0≤wS ws f by omega) h2.1
 have h3:wS ws f*qA Cq ws Fw f≤600000*1000000000:=Int.mul_le_mul h1.2.1 h2.2 h2.1 (by omega)
 omega
theorem jY:0≤qn Cq ws Fw∧qn Cq ws Fw≤600000000000000:=by
 obtain ⟨f,hf,e⟩:=j8 (g:=qO Cq ws Fw) (l:=Fw) (by have:=hn.f1;omega)
 unfold qn
 rw [e]
 exact j6 hn hw hf
theorem Gx {f:List Int} (hf:f∈Fw) {k:Int} (hk:k∈f) (lim:List Int):v69 k (ql ws f) Cq Fw lim ws (qi ws Fw)=some (qD Cq ws Fw f k):=by
 have hr:=hn.rg f hf k hk
 have hlw:=hw.len
 have hlt:k.toNat < ws.length:=by omega
 have hll:(qi ws Fw).length=ws.length:=qp _ _
 have hp:=ja hn hw hf
 have hc:=hn.cp k.toNat
 have hpos:=jz hn hw (jq hf hk hr.1)
 have hb:=jD hn hw hf hk
 have h0:0≤ql ws f*Cq.getD k.toNat 0:=Int.mul_nonneg (by omega) hc.1
 have h1:ql ws f*Cq.getD k.toNat 0≤1000000000*1000:=Int.mul_le_mul hp.2 hc.2 hc.1 (by omega)
 unfold v69
 rw [dT hr.1,dT hr.2,hll,dT (show k < (ws.length:Int) by omega),dT hlt,show (qi ws Fw).getD k.toNat 0=qe ws Fw k.toNat from qC _ hlt]
 simp only [cond_true]
 refine (qw (by omega) _ _).trans ?_
 rw [qg (x:=ql ws f*Cq.getD k.toNat 0) (by omega) (by omega),qg (x:=ql ws f*Cq.getD k.toNat 0*1000000) (by omega) (by omega)]
 show some (IntKind.wrap IntKind.i64 (qD Cq ws Fw f k))=_
 rw [qg (by omega) (by omega)]
theorem v68_eq {f:List Int} (hf:f∈Fw) (lim:List Int):v68 f (ql ws f) Cq Fw lim ws (qi ws Fw)=some (qA Cq ws Fw f):=by
 have hl:=hn.h1 f hf
 cases f with
 | nil=>simp at hl
 | cons a l=>
  have e1:=Gx hn hw hf (k:=a) (by simp) lim
  have hll:l.length≤6:=by simp at hl;omega
  have e2:LaC FU (qD Cq ws Fw (a::l) a) l (l.length:Int) 0 (ql ws (a::l)) Cq Fw lim ws (qi ws Fw)=some (qA Cq ws Fw (a::l)):=by
   refine qm (m:=l.length) (by omega) (fun n j (s:Int)=>LaC n s l (l.length:Int) j (ql ws (a::l)) Cq Fw lim ws (qi ws Fw)) (fun j=>(l.take j).foldl (jc (qD Cq ws Fw (a::l))) (qD Cq ws Fw (a::l) a)) _ (fun n j hj=>?_) (fun n=>?_)
   ·show LaC (n+1) _ _ _ _ _ _ _ _ _ _=LaC n _ _ _ _ _ _ _ _ _ _
    have e3:=Gx hn hw hf (k:=l.getD j 0) (List.mem_cons_of_mem _ (qM hj 0)) lim
    rw [qLaC,dT (show (j:Int) < (l.length:Int) by omega),dT (show (0:Int)≤(j:Int) by omega),up1 (by omega),jw _ _ l 0 hj]
    simp only [cond_true,tN]
    rw [e3];rfl
   ·show LaC (n+1) _ _ _ _ _ _ _ _ _ _=_
    rw [qLaC,dF (show ¬ (l.length:Int) < (l.length:Int) by omega),qB]
    rfl
  have ed:List.drop (Int.toNat 1) (List.take (a::l).length (a::l))=l:=by rw [qB];rfl
  unfold v68
  rw [ed,show (a::l).getD (Int.toNat 0) 0=a from rfl,e1,qf,qd,e2,dT (show (0:Int) < ((a::l).length:Int) by simp only [List.length_cons];omega),dT (show Int.toNat 1≤(a::l).length by show 1≤_;simp),dT (Nat.le_refl _)]
  rfl
theorem Gr {f:List Int} (hf:f∈Fw) (lim:List Int):v49 f Cq Fw lim ws (qi ws Fw)=some (qA Cq ws Fw f):=by
 have h1:=jR hn hw hf
 have hp:=ja hn hw hf
 unfold v49 tv49
 simp only [gk hn hw hf lim,qf,qd,cond_true]
 refine (qw (p:=wS ws f≠0) (by omega) _ _).trans ?_
 have hpe:Int.tdiv 1000000000 (wS ws f)=ql ws f:=rfl
 rw [hpe,qg (by omega) (by omega),v68_eq hn hw hf lim]
 rfl
theorem Gl {f:List Int} (hf:f∈Fw) (lim:List Int):v51 f Cq Fw lim ws (qi ws Fw)=some (qO Cq ws Fw f):=by
 have h:=j6 hn hw hf
 unfold v51 tv51
 rw [gk hn hw hf lim,Gr hn hw hf lim]
 simp only [qf,qd,cond_true]
 show some (IntKind.wrap IntKind.i64 (qO Cq ws Fw f))=_
 rw [qg (by omega) (by omega)]
theorem v50_eq (lim:List Int):v50 Fw Cq Fw lim ws (qi ws Fw)=some (qn Cq ws Fw):=by
 have key:∀ fl:List (List Int),(∀ f∈fl,f∈Fw)→1≤fl.length→fl.length≤8→v50 fl Cq Fw lim ws (qi ws Fw)=some (minL (qO Cq ws Fw) fl):=by
  intro fl hfl h1 h2
  cases fl with
  | nil=>simp at h1
  | cons a l=>
   have e1:=Gl hn hw (hfl a (by simp)) lim
   have hll:l.length≤8:=by simp at h2;omega
   have e2:LaB FU (qO Cq ws Fw a) l (l.length:Int) 0 Cq Fw lim ws (qi ws Fw)=some (minL (qO Cq ws Fw) (a::l)):=by
    refine qm (m:=l.length) (by omega) (fun n j (s:Int)=>LaB n s l (l.length:Int) j Cq Fw lim ws (qi ws Fw)) (fun j=>(l.take j).foldl (jc (qO Cq ws Fw)) (qO Cq ws Fw a)) _ (fun n j hj=>?_) (fun n=>?_)
    ·show LaB (n+1) _ _ _ _ _ _ _ _ _=LaB n _ _ _ _ _ _ _ _ _
     have e3:=Gl hn hw (hfl (l.getD j []) (List.mem_cons_of_mem _ (qM hj []))) lim
     rw [qLaB,dT (show (j:Int) < (l.length:Int) by omega),dT (show (0:Int)≤(j:Int) by omega),up1 (by omega),jw _ _ l [] hj]
     simp only [cond_true,tN]
     rw [e3];rfl
    ·show LaB (n+1) _ _ _ _ _ _ _ _ _=_
     rw [qLaB,dF (show ¬ (l.length:Int) < (l.length:Int) by omega),qB]
     rfl
   have ed:List.drop (Int.toNat 1) (List.take (a::l).length (a::l))=l:=by rw [qB];rfl
   unfold v50
   rw [ed,show (a::l).getD (Int.toNat 0) []=a from rfl,e1,qf,qd,e2,dT (show (0:Int) < ((a::l).length:Int) by simp only [List.length_cons];omega),dT (show Int.toNat 1≤(a::l).length by show 1≤_;simp),dT (Nat.le_refl _)]
   rfl
 exact key Fw (fun _ h=>h) hn.f1 hn.nf
theorem l28_0 (lim:List Int) (a b c:List Int) (d:List (List Int)):Laf FU Fw (Fw.length:Int) 0 0 0 Cq Fw lim ws (qi ws Fw) [] a d b=some (qy Cq ws Fw):=by
 have hf:=hn.nf
 refine qm (m:=Fw.length) (by omega) (fun n j (s:List (List Int))=>Laf n Fw (Fw.length:Int) j 0 0 Cq Fw lim ws (qi ws Fw) s a d b) (fun j=>(Fw.take j).map fun f=>[qA Cq ws Fw f]) _ (fun n j hj=>?_) (fun n=>?_)
 ·show Laf (n+1) _ _ _ _ _ _ _ _ _ _ _ _ _ _=Laf n _ _ _ _ _ _ _ _ _ _ _ _ _ _
  have e:=Gr hn hw (jv Fw hj) lim
  rw [qLaf,dT (show (j:Int) < (Fw.length:Int) by omega),dT (show (0:Int)≤(j:Int) by omega),up1 (by omega)]
  simp only [cond_true,tN]
  simp only [e,qf,qd,cond_true]
  refine (qw (by simp only [List.length_map,List.length_take,List.length_singleton];show _≤2147483648;omega) _ _).trans ?_
  rw [qJ Fw [] hj,List.map_append]
  rfl
 ·show Laf (n+1) _ _ _ _ _ _ _ _ _ _ _ _ _ _=_
  rw [qLaf,dF (show ¬ (Fw.length:Int) < (Fw.length:Int) by omega),qB]
  rfl
theorem l28_16 (lim:List Int) (x10:List (List Int)) (a:List Int) (d:List (List Int)) (hp:qn Cq ws Fw≠0):Lau FU (qn Cq ws Fw) (ws.length:Int) 0 0 0 Cq Fw lim ws (qi ws Fw) x10 [] d a=some (qo Cq ws Fw):=by
 have hl:=hw.len
 have hlk:=hn.lk
 have hb:=jY hn hw
 refine qm (m:=ws.length) (by omega) (fun n j (s:List Int)=>Lau n (qn Cq ws Fw) (ws.length:Int) j 0 0 Cq Fw lim ws (qi ws Fw) x10 s d a) (fun j=>(ws.take j).map (qH (qn Cq ws Fw))) _ (fun n j hj=>?_) (fun n=>?_)
 ·show Lau (n+1) _ _ _ _ _ _ _ _ _ _ _ _ _ _=Lau n _ _ _ _ _ _ _ _ _ _ _ _ _ _
  have hwb:=hw.bd j
  rw [qLau,dT (show (j:Int) < (ws.length:Int) by omega),dT (show (0:Int)≤(j:Int) by omega),up1 (by omega)]
  simp only [cond_true,tN]
  rw [dT hj]
  simp only [cond_true]
  refine (qw hp _ _).trans ?_
  refine (qw (by simp only [List.length_map,List.length_take,List.length_singleton];show _≤2147483648;omega) _ _).trans ?_
  have hq:0≤qH (qn Cq ws Fw) (ws.getD j 0)∧qH (qn Cq ws Fw) (ws.getD j 0)≤100000000000000000+600000000000000:=by
   unfold qH
   rw [Int.tdiv_eq_ediv_of_nonneg (by omega)]
   exact ⟨Int.ediv_nonneg (by omega) (by omega),Int.le_trans (Int.ediv_le_self _ (by omega)) (by omega)⟩
  rw [qJ ws 0 hj,List.map_append,qg (x:=ws.getD j 0*1000000000000) (by omega) (by omega),qg (x:=ws.getD j 0*1000000000000+qn Cq ws Fw) (by omega) (by omega),qg (x:=ws.getD j 0*1000000000000+qn Cq ws Fw - 1) (by omega) (by omega)]
  show Lau n _ _ _ _ _ _ _ _ _ _ _ (_++[IntKind.wrap IntKind.i64 (qH (qn Cq ws Fw) (ws.getD j 0))]) _ _=_
  rw [qg (by omega) (by omega)]
  rfl
 ·show Lau (n+1) _ _ _ _ _ _ _ _ _ _ _ _ _ _=_
  rw [qLau,dF (show ¬ (ws.length:Int) < (ws.length:Int) by omega),qB]
  rfl
theorem gC (Pq:List Int) (hp:Pq.length≤20):Few Cq (qr Fw) (qy Cq ws Fw) Pq:=by
 have hf:=hn.nf
 have hlk:=hn.lk
 refine ⟨by omega,by unfold qr;rw [List.length_map];omega,by unfold qy;rw [List.length_map];omega,hp,fun i=>?_,fun i k=>?_,fun i=>?_⟩
 ·unfold qr;rw [qS _ Fw [] []];split<;>simp
 ·unfold qr;rw [qS _ Fw [] []]
  split
  ·rename_i hi
   have:=(hn.h1 _ (jv Fw hi)).2
   cases k with
   | zero=>show (Fw.getD i []).length≤20;omega
   | succ k=>show (([]:List (List Int)).getD k []).length≤20;simp
  ·simp
 ·unfold qy;rw [qS _ Fw [] []];split<;>simp
theorem Gy (lim:List Int):v28 Cq Fw lim ws (qi ws Fw)=some (qt Cq ws Fw):=by
 have hl:=hw.len
 have hlk:=hn.lk
 unfold v28 tv28 qt
 rw [l28_0 hn hw lim [] [] [] [],v50_eq hn hw lim]
 simp only [qf,qd,cond_true]
 by_cases hp:qn Cq ws Fw=0
 ·rw [if_pos hp,hp];rfl
 ·rw [if_neg hp,show (qn Cq ws Fw==0)=false by simp [hp],l28_16 hn hw lim _ [] [] hp,Gf Cq lim (by have:=hn.nf;omega)]
  simp only [qf,qd,cond_true,cond_false]
  rw [v21_eq (gC hn hw _ (by unfold qo;rw [List.length_map];omega))]
  rfl
end
def qE (Fw:List (List Int)) (t:Nat):Bool:=Fw.any fun f=>decide ((t:Int)∈f)
theorem used_iff {Fw:List (List Int)} {t:Nat}:qE Fw t=true↔qU Fw t:=by
 unfold qE qU
 simp
def qh (n:Nat) (Fw:List (List Int)):List Int:=tab n fun t=>cond (qE Fw t) 1000 0
def jb (Cq:List Int) (Fw:List (List Int)):Bool:=Fw.all fun f=>f.all fun k=>decide (Cq.getD k.toNat 0 > 0)
theorem jh {l:List Int} {t:Nat} (h:l.length≤t):l.getD t 0=0:=by rw [List.getD_eq_getElem?_getD,List.getElem?_eq_none h];rfl
section
variable {Cq : List Int} {Fw : List (List Int)} {ws : List Int} (hn : Nw Cq Fw)
include hn
theorem j7 {t:Nat} (h:qU Fw t):t < Cq.length:=by
 obtain ⟨f,hf,hk⟩:=h
 have:=hn.rg f hf _ hk
 omega
theorem jS:jb Cq Fw=true↔Fit Cq Fw:=by
 unfold jb Fit
 simp only [List.all_eq_true,decide_eq_true_eq]
 constructor
 ·rintro h t ⟨f,hf,hk⟩
  have:=h f hf _ hk
  rw [tN] at this
  omega
 ·intro h f hf k hk
  have:=h k.toNat (jq hf hk (hn.rg f hf k hk).1)
  omega
theorem jg:Wt Cq.length Fw (qh Cq.length Fw):=by
 have hin:∀ t,(qh Cq.length Fw).getD t 0=cond (qE Fw t) 1000 0:=by
  intro t
  by_cases h:t < Cq.length
  ·exact qC _ h
  ·rw [jh (by unfold qh;rw [qp];omega)]
   cases hu:qE Fw t with
   | false=>rfl
   | true=>exact absurd (j7 hn (used_iff.1 hu)) h
 refine ⟨qp _ _,fun t=>?_,fun t=>?_⟩
 ·rw [hin];cases qE Fw t<;>simp
 ·rw [hin,← used_iff];cases qE Fw t<;>simp
theorem l27_16 {f:List Int} (hf:f∈Fw) (b:Bool) (A:Nat→Int) (x1:List (List Int)) (x2 x3:Int) (x8:List (List Int)) (x9 x10:List Int) (x11:List (List Int)) (x12:List Int) :
  Lak FU b x1 x2 x3 f (f.length:Int) 0 Cq x8 x9 x10 x11 x12 (tab Cq.length A)=some (b&&f.all fun k=>decide (Cq.getD k.toNat 0 > 0),tab Cq.length fun t=>if (t:Int)∈f then 1000 else A t):=by
 have hl:=hn.h1 f hf
 have e0:(b,tab Cq.length A)=(b&&(f.take 0).all fun k=>decide (Cq.getD k.toNat 0 > 0),tab Cq.length fun t=>if (t:Int)∈f.take 0 then 1000 else A t):=by simp
 have h:=qm (m:=f.length) (by omega) (fun n j (s:Bool×List Int)=>Lak n s.1 x1 x2 x3 f (f.length:Int) j Cq x8 x9 x10 x11 x12 s.2) (fun j=>(b&&(f.take j).all fun k=>decide (Cq.getD k.toNat 0 > 0),tab Cq.length fun t=>if (t:Int)∈f.take j then 1000 else A t)) (b&&f.all fun k=>decide (Cq.getD k.toNat 0 > 0),tab Cq.length fun t=>if (t:Int)∈f then 1000 else A t) (fun n j hj=>?_) (fun n=>?_)
 ·rw [← e0] at h;exact h
 ·show Lak (n+1) _ _ _ _ _ _ _ _ _ _ _ _ _ _=Lak n _ _ _ _ _ _ _ _ _ _ _ _ _ _
  have hr:=hn.rg f hf _ (qM hj 0)
  have hk:(f.getD j 0).toNat < Cq.length:=by omega
  rw [qLak,dT (show (j:Int) < (f.length:Int) by omega),dT (show (0:Int)≤(j:Int) by omega),up1 (by omega)]
  simp only [cond_true,tN,qp]
  rw [dT hr.1,dT hr.2,dT hk,jp]
  simp only [cond_true]
  have et:(tab Cq.length fun k=>if k=(f.getD j 0).toNat then 1000 else if (k:Int)∈f.take j then 1000 else A k)=tab Cq.length fun t=>if (t:Int)∈f.take (j+1) then 1000 else A t:=by
   refine qq fun k _=>?_
   rw [qJ f 0 hj]
   by_cases c:k=(f.getD j 0).toNat
   ·rw [if_pos c,if_pos (by rw [c,Int.toNat_of_nonneg hr.1];simp)]
   ·rw [if_neg c]
    have hne:(k:Int)≠f.getD j 0:=by omega
    by_cases hm:(k:Int)∈f.take j
    ·rw [if_pos hm,if_pos (by simp [hm])]
    ·rw [if_neg hm,if_neg (by simp only [List.mem_append,List.mem_singleton];rintro (h | h);exact hm h;exact hne h)]
  rw [et,qJ f 0 hj,List.all_append]
  cases b<;>cases hq:(f.take j).all (fun k=>decide (Cq.getD k.toNat 0 > 0))<;>simp
 ·show Lak (n+1) _ _ _ _ _ _ _ _ _ _ _ _ _ _=_
  rw [qLak,dF (show ¬ (f.length:Int) < (f.length:Int) by omega),qB]
  rfl
theorem v27_eq (lim:List Int):v27 Cq Fw lim=some (jb Cq Fw,qh Cq.length Fw,qi (qh Cq.length Fw) Fw):=by
 have hf:=hn.nf
 have hlk:=hn.lk
 have e0:(true,tab Cq.length fun _=>0)=((Fw.take 0).all (fun f=>f.all fun k=>decide (Cq.getD k.toNat 0 > 0)),tab Cq.length fun t=>cond (qE (Fw.take 0) t) 1000 0):=by simp [qE]
 have h0:LaA FU true Fw (Fw.length:Int) 0 Cq Fw lim Cq Fw lim (List.replicate (Int.toNat (Cq.length:Int)) 0)=some (jb Cq Fw,qh Cq.length Fw):=by
  rw [tN,jI]
  have h:=qm (m:=Fw.length) (by omega) (fun n j (s:Bool×List Int)=>LaA n s.1 Fw (Fw.length:Int) j Cq Fw lim Cq Fw lim s.2) (fun j=>((Fw.take j).all (fun f=>f.all fun k=>decide (Cq.getD k.toNat 0 > 0)),tab Cq.length fun t=>cond (qE (Fw.take j) t) 1000 0)) (jb Cq Fw,qh Cq.length Fw) (fun n j hj=>?_) (fun n=>?_)
  ·rw [← e0] at h;exact h
  ·show LaA (n+1) _ _ _ _ _ _ _ _ _ _ _=LaA n _ _ _ _ _ _ _ _ _ _ _
   have e:=l27_16 hn (jv Fw hj) ((Fw.take j).all (fun f=>f.all fun k=>decide (Cq.getD k.toNat 0 > 0))) (fun t=>cond (qE (Fw.take j) t) 1000 0) Fw (Fw.length:Int) (j:Int) Fw lim Cq Fw lim
   rw [qLaA,dT (show (j:Int) < (Fw.length:Int) by omega),dT (show (0:Int)≤(j:Int) by omega),up1 (by omega)]
   simp only [cond_true,tN]
   rw [e]
   simp only [qf,qd,cond_true]
   have et:(tab Cq.length fun t=>if (t:Int)∈Fw.getD j [] then 1000 else cond (qE (Fw.take j) t) 1000 0)=tab Cq.length fun t=>cond (qE (Fw.take (j+1)) t) 1000 0:=by
    refine qq fun t _=>?_
    unfold qE
    rw [qJ Fw [] hj,List.any_append]
    by_cases c:(t:Int)∈Fw.getD j []
    ·rw [if_pos c];simp only [List.any_cons,List.any_nil,dT c];simp
    ·rw [if_neg c];simp only [List.any_cons,List.any_nil,dF c];simp
   rw [et,qJ Fw [] hj,List.all_append]
   simp
  ·show LaA (n+1) _ _ _ _ _ _ _ _ _ _ _=_
   rw [qLaA,dF (show ¬ (Fw.length:Int) < (Fw.length:Int) by omega),qB]
   rfl
 unfold v27 tv27
 rw [h0,dT (Int.le_refl _),dT (show (Cq.length:Int)≤((nat_lit 2147483648:Nat):Int) by show (Cq.length:Int)≤((2147483648:Nat):Int);omega)]
 simp only [qf,qd,cond_true]
 rw [Gv hn (jg hn) lim]
 rfl
end
section
variable (Cq : List Int) (Fw : List (List Int)) (ws : List Int)
def jQ (m:Int) (t:Nat):Int:=
 if ws.getD t 0 > 0 then (if m < 0 then (t:Int) else if qe ws Fw t*Cq.getD m.toNat 0 > qe ws Fw m.toNat*Cq.getD t 0 then (t:Int) else m) else m
def ji:Nat→Int
 | 0=>-1
 | t+1=>jQ Cq Fw ws (ji t) t
def mS:Nat:=(ji Cq Fw ws Cq.length).toNat
def qW (t:Nat):Int:=Int.tdiv (ws.getD t 0*(qe ws Fw t*Cq.getD (mS Cq Fw ws) 0+Cq.getD t 0*qe ws Fw (mS Cq Fw ws))) (2*Cq.getD t 0*qe ws Fw (mS Cq Fw ws))
def qs (t:Nat):Int:=if ws.getD t 0=0 then 0 else max 1 (qW Cq Fw ws t)
def qu:List Int:=tab ws.length (qs Cq Fw ws)
end
def maxL:List Int→Int
 | []=>0
 | x::l=>l.foldl max x
def dbl (l:List Int):List Int:=tab l.length fun t=>l.getD t 0*2
def jt (Cq:List Int) (Fw:List (List Int)) (ws:List Int):List Int:=if maxL (qu Cq Fw ws) < 50000 then dbl (qu Cq Fw ws) else qu Cq Fw ws
theorem gv:∀ (l:List Int) (o:Int),o≤l.foldl max o∧∀ x∈l,x≤l.foldl max o
 | [],o=>⟨Int.le_refl _,fun x hx=>nomatch hx⟩
 | y::l,o=>by
  obtain ⟨h1,h2⟩:=gv l (max o y)
  refine ⟨by simp only [List.foldl_cons];omega,fun x hx=>?_⟩
  simp only [List.foldl_cons]
  rcases List.mem_cons.1 hx with rfl | hx
  ·omega
  ·exact h2 x hx
theorem gT:∀ {l:List Int} {x:Int},x∈l→x≤maxL l
 | y::l,x,hx=>by
  obtain ⟨h1,h2⟩:=gv l y
  rcases List.mem_cons.1 hx with rfl | hx
  ·exact h1
  ·exact h2 x hx
theorem v53_eq {l:List Int} (h0:1≤l.length) (h1:l.length≤20):v53 l=some (maxL l):=by
 cases l with
 | nil=>simp at h0
 | cons a l=>
  have hll:l.length≤20:=by simp at h1;omega
  have key:∀ (k n i:Nat) (s:Int),i+k=l.length→k < n→Lbo n (a::l) s ((i+1:Nat):Int)=some ((l.drop i).foldl max s):=by
   intro k
   induction k with
   | zero=>
    intro n i s h1 h2
    cases n with
    | zero=>omega
    | succ n=>
     rw [qLbo,dF (show ¬ ((i+1:Nat):Int) < ((a::l).length:Int) by simp only [List.length_cons];omega),List.drop_eq_nil_of_le (by omega)]
     rfl
   | succ k ih=>
    intro n i s h1 h2
    cases n with
    | zero=>omega
    | succ n=>
     rw [qLbo,dT (show ((i+1:Nat):Int) < ((a::l).length:Int) by simp only [List.length_cons];omega),dT (show (0:Int)≤((i+1:Nat):Int) by omega),up1 (by omega)]
     simp only [cond_true,tN]
     rw [ih n (i+1) _ (by omega) (by omega),jV (i:=i) (by omega) 0]
     rfl
  have h:=key l.length FU 0 a (by omega) (by unfold FU;omega)
  unfold v53 tv53
  rw [show (a::l).getD (Int.toNat 0) 0=a from rfl,show (1:Int)=((0+1:Nat):Int) from rfl,h,dF (show ¬ ((a::l).length:Int) < ((0+1:Nat):Int) by simp only [List.length_cons];omega),dT (show (0:Int) < ((a::l).length:Int) by simp only [List.length_cons];omega)]
  rfl
theorem cross {a b c p q r:Int} (hq:1≤q) (hp:0≤p) (hr:0≤r) (h1:a*q≤b*p) (h2:b*r≤c*q):a*r≤c*p:=by
 have e1:a*q*r≤b*p*r:=Int.mul_le_mul_of_nonneg_right h1 hr
 have e2:b*r*p≤c*q*p:=Int.mul_le_mul_of_nonneg_right h2 hp
 have e3:a*r*q≤c*p*q:=by
  have t1:a*q*r=a*r*q:=by rw [Int.mul_assoc,Int.mul_comm q r,← Int.mul_assoc]
  have t2:b*p*r=b*r*p:=by rw [Int.mul_assoc,Int.mul_comm p r,← Int.mul_assoc]
  have t3:c*q*p=c*p*q:=by rw [Int.mul_assoc,Int.mul_comm q p,← Int.mul_assoc]
  omega
 exact Int.le_of_mul_le_mul_right e3 (by omega)
section
variable {Cq : List Int} {Fw : List (List Int)} {ws : List Int} (hn : Nw Cq Fw) (hw : Wt Cq.length Fw ws) (hf : Fit Cq Fw)
include hn hw
theorem gd {t:Nat}:ws.getD t 0 > 0↔qU Fw t:=⟨fun h=>(hw.us t).1 (by omega),fun h=>by have:=(hw.us t).2 h;omega⟩
include hf
theorem jG:∀ j,(ji Cq Fw ws j=-1∧∀ t,t < j→¬ qU Fw t)∨∃ m:Nat,ji Cq Fw ws j=(m:Int)∧m < j∧qU Fw m∧∀ t,t < j→qU Fw t→qe ws Fw t*Cq.getD m 0≤qe ws Fw m*Cq.getD t 0
 | 0=>.inl ⟨rfl,fun t h=>by omega⟩
 | j+1=>by
  have e:ji Cq Fw ws (j+1)=jQ Cq Fw ws (ji Cq Fw ws j) j:=rfl
  have hu:=gd hn hw (t:=j)
  by_cases c:qU Fw j
  ·rcases jG j with ⟨h1,h2⟩ | ⟨m,h1,h2,h3,h4⟩
   ·refine .inr ⟨j,?_,by omega,c,fun t ht hut=>?_⟩
    ·rw [e,h1];unfold jQ;rw [if_pos (hu.2 c),if_pos (by omega)]
    ·by_cases c2:t=j
     ·rw [c2];exact Int.le_refl _
     ·exact absurd hut (h2 t (by omega))
   ·rw [e,h1]
    unfold jQ
    rw [if_pos (hu.2 c),if_neg (by omega),tN]
    by_cases c2:qe ws Fw j*Cq.getD m 0 > qe ws Fw m*Cq.getD j 0
    ·rw [if_pos c2]
     refine .inr ⟨j,rfl,by omega,c,fun t ht hut=>?_⟩
     by_cases c3:t=j
     ·rw [c3];exact Int.le_refl _
     ·exact cross (q:=Cq.getD m 0) (b:=qe ws Fw m) (hf m h3) (hn.cp t).1 (hn.cp j).1 (h4 t (by omega) hut) (by omega)
    ·rw [if_neg c2]
     refine .inr ⟨m,rfl,by omega,h3,fun t ht hut=>?_⟩
     by_cases c3:t=j
     ·rw [c3];omega
     ·exact h4 t (by omega) hut
  ·have hz:¬ ws.getD j 0 > 0:=fun h=>c (hu.1 h)
   have e2:ji Cq Fw ws (j+1)=ji Cq Fw ws j:=by rw [e];unfold jQ;rw [if_neg hz]
   rw [e2]
   rcases jG j with ⟨h1,h2⟩ | ⟨m,h1,h2,h3,h4⟩
   ·refine .inl ⟨h1,fun t ht hut=>?_⟩
    by_cases c3:t=j
    ·exact c (c3▸hut)
    ·exact h2 t (by omega) hut
   ·refine .inr ⟨m,h1,by omega,h3,fun t ht hut=>?_⟩
    by_cases c3:t=j
    ·exact absurd (c3▸hut) c
    ·exact h4 t (by omega) hut
theorem j9:ji Cq Fw ws Cq.length=(mS Cq Fw ws:Int)∧mS Cq Fw ws < Cq.length∧qU Fw (mS Cq Fw ws)∧∀ t,qU Fw t→qe ws Fw t*Cq.getD (mS Cq Fw ws) 0≤qe ws Fw (mS Cq Fw ws)*Cq.getD t 0:=by
 rcases jG hn hw hf Cq.length with ⟨h1,h2⟩ | ⟨m,h1,h2,h3,h4⟩
 ·exfalso
  obtain ⟨f,hfm⟩:=List.exists_mem_of_length_pos (show 0 < Fw.length by have:=hn.f1;omega)
  obtain ⟨k,hk⟩:=List.exists_mem_of_length_pos (show 0 < f.length by have:=hn.h1 f hfm;omega)
  have hr:=hn.rg f hfm k hk
  exact h2 k.toNat (by omega) (jq hfm hk hr.1)
 ·have e:mS Cq Fw ws=m:=by unfold mS;rw [h1];rfl
  rw [e]
  exact ⟨h1,h2,h3,fun t ht=>h4 t (j7 hn ht) ht⟩
theorem gp {t:Nat} (ht:qU Fw t):0≤qW Cq Fw ws t∧qW Cq Fw ws t≤ws.getD t 0∧0≤qe ws Fw t*Cq.getD (mS Cq Fw ws) 0∧qe ws Fw t*Cq.getD (mS Cq Fw ws) 0≤8000000000000
  ∧ 1≤Cq.getD t 0*qe ws Fw (mS Cq Fw ws)∧Cq.getD t 0*qe ws Fw (mS Cq Fw ws)≤8000000000000
  ∧ 0≤ws.getD t 0*(qe ws Fw t*Cq.getD (mS Cq Fw ws) 0+Cq.getD t 0*qe ws Fw (mS Cq Fw ws))∧ws.getD t 0*(qe ws Fw t*Cq.getD (mS Cq Fw ws) 0+Cq.getD t 0*qe ws Fw (mS Cq Fw ws))≤1600000000000000000:=by
 obtain ⟨h1,h2,h3,h4⟩:=j9 hn hw hf
 have hL:=jf hn hw t
 have hLm:=jf hn hw (mS Cq Fw ws)
 have hpm:=jz hn hw h3
 have hc:=hf t ht
 have hc2:=hn.cp t
 have hcm:=hn.cp (mS Cq Fw ws)
 have hwt:=hw.bd t
 have h5:=h4 t ht
 unfold qW
 generalize qe ws Fw t=L at*
 generalize qe ws Fw (mS Cq Fw ws)=M at*
 generalize Cq.getD (mS Cq Fw ws) 0=cm at*
 generalize Cq.getD t 0=c at*
 generalize ws.getD t 0=w at*
 have a1:0≤L*cm:=Int.mul_nonneg hL.1 hcm.1
 have a2:L*cm≤8000000000*1000:=Int.mul_le_mul hL.2 hcm.2 hcm.1 (by omega)
 have b1:1*1≤c*M:=Int.mul_le_mul hc (by omega) (by omega) (by omega)
 have b2:c*M≤1000*8000000000:=Int.mul_le_mul hc2.2 hLm.2 hLm.1 (by omega)
 have b3:M*c=c*M:=Int.mul_comm _ _
 have b4:2*c*M=2*(c*M):=Int.mul_assoc _ _ _
 rw [b4]
 generalize c*M=q at*
 generalize L*cm=p at*
 have n0:0≤w*(p+q):=Int.mul_nonneg hwt.1 (by omega)
 have n1:w*(p+q)≤100000*16000000000000:=Int.mul_le_mul hwt.2 (by omega) (by omega) (by omega)
 have n2:w*(p+q)≤w*(2*q):=Int.mul_le_mul_of_nonneg_left (by omega) hwt.1
 refine ⟨?_,?_,a1,by omega,by omega,by omega,n0,by omega⟩
 ·rw [Int.tdiv_eq_ediv_of_nonneg n0];exact Int.ediv_nonneg n0 (by omega)
 ·rw [Int.tdiv_eq_ediv_of_nonneg n0];exact Int.ediv_le_of_le_mul (by omega) n2
theorem jr (t:Nat):0≤qs Cq Fw ws t∧qs Cq Fw ws t≤100000∧(1≤qs Cq Fw ws t↔qU Fw t):=by
 have hwt:=hw.bd t
 have hu:=hw.us t
 unfold qs
 by_cases c:ws.getD t 0=0
 ·rw [if_pos c,← hu,c];omega
 ·rw [if_neg c]
  have c2:qU Fw t:=hu.1 (by omega)
  have:=gp hn hw hf c2
  refine ⟨by omega,by omega,fun _=>c2,fun _=>by omega⟩
theorem l29_0 (lim:List Int):Laa FU (-1) (ws.length:Int) 0 Cq Fw lim ws (qi ws Fw)=some (mS Cq Fw ws:Int):=by
 have hl:=hw.len
 have hlk:=hn.lk
 have hm:=j9 hn hw hf
 have hld:(qi ws Fw).length=ws.length:=qp _ _
 refine qm (m:=ws.length) (by omega) (fun n j (s:Int)=>Laa n s (ws.length:Int) j Cq Fw lim ws (qi ws Fw)) (ji Cq Fw ws) _ (fun n j hj=>?_) (fun n=>?_)
 ·show Laa (n+1) _ _ _ _ _ _ _ _=Laa n _ _ _ _ _ _ _ _
  have e:ji Cq Fw ws (j+1)=jQ Cq Fw ws (ji Cq Fw ws j) j:=rfl
  have hu:=gd hn hw (t:=j)
  have hLj:(qi ws Fw).getD j 0=qe ws Fw j:=qC _ hj
  rw [qLaa,dT (show (j:Int) < (ws.length:Int) by omega),dT (show (0:Int)≤(j:Int) by omega),up1 (by omega)]
  simp only [cond_true,tN,hLj,hld]
  rw [dT hj,cond_true,e]
  unfold jQ
  by_cases c:ws.getD j 0 > 0
  ·rw [if_pos c,dT c]
   rcases jG hn hw hf j with ⟨h1,h2⟩ | ⟨m,h1,h2,h3,h4⟩
   ·rw [h1];rfl
   ·have hb1:=jf hn hw j
    have hb2:=jf hn hw m
    have hc1:=hn.cp j
    have hc2:=hn.cp m
    have hLm:(qi ws Fw).getD m 0=qe ws Fw m:=qC _ (by omega)
    have a1:0≤qe ws Fw j*Cq.getD m 0:=Int.mul_nonneg hb1.1 hc2.1
    have a2:qe ws Fw j*Cq.getD m 0≤8000000000*1000:=Int.mul_le_mul hb1.2 hc2.2 hc2.1 (by omega)
    have a3:0≤qe ws Fw m*Cq.getD j 0:=Int.mul_nonneg hb2.1 hc1.1
    have a4:qe ws Fw m*Cq.getD j 0≤8000000000*1000:=Int.mul_le_mul hb2.2 hc1.2 hc1.1 (by omega)
    rw [h1,if_neg (show ¬ (m:Int) < 0 by omega),dF (show ¬ (m:Int) < 0 by omega),dT (show (0:Int)≤(m:Int) by omega),dT (show (j:Int) < (ws.length:Int) by omega),dT (show (m:Int) < (Cq.length:Int) by omega),dT (show (m:Int) < (ws.length:Int) by omega),dT (show (j:Int) < (Cq.length:Int) by omega)]
    simp only [cond_true,cond_false,tN,hLm]
    rw [dT (show m < ws.length by omega),qg (by omega) (by omega),qg (by omega) (by omega)]
    by_cases c2:qe ws Fw j*Cq.getD m 0 > qe ws Fw m*Cq.getD j 0
    ·rw [if_pos c2,dT c2];rfl
    ·rw [if_neg c2,dF c2];rfl
  ·rw [if_neg c,dF c];rfl
 ·show Laa (n+1) _ _ _ _ _ _ _ _=_
  rw [qLaa,dF (show ¬ (ws.length:Int) < (ws.length:Int) by omega),hl,hm.1]
  rfl
theorem l29_16 (lim:List Int):Lab FU (Cq.getD (mS Cq Fw ws) 0) (qe ws Fw (mS Cq Fw ws)) (ws.length:Int) 0 Cq Fw lim ws (qi ws Fw) (List.replicate ws.length 0)=some (qu Cq Fw ws):=by
 have hl:=hw.len
 have hlk:=hn.lk
 have hld:(qi ws Fw).length=ws.length:=qp _ _
 rw [jI]
 have e0:(tab ws.length fun _=>0)=tab ws.length fun t=>if t < 0 then qs Cq Fw ws t else 0:=qq fun t _=>by rw [if_neg (by omega)]
 rw [e0]
 refine qm (m:=ws.length) (by omega) (fun n j (s:List Int)=>Lab n (Cq.getD (mS Cq Fw ws) 0) (qe ws Fw (mS Cq Fw ws)) (ws.length:Int) j Cq Fw lim ws (qi ws Fw) s) (fun j=>tab ws.length fun t=>if t < j then qs Cq Fw ws t else 0) _ (fun n j hj=>?_) (fun n=>?_)
 ·show Lab (n+1) _ _ _ _ _ _ _ _ _ _=Lab n _ _ _ _ _ _ _ _ _ _
  have hLj:(qi ws Fw).getD j 0=qe ws Fw j:=qC _ hj
  rw [qLab,dT (show (j:Int) < (ws.length:Int) by omega),dT (show (0:Int)≤(j:Int) by omega),up1 (by omega)]
  simp only [cond_true,tN,hLj,hld,qp]
  rw [dT hj,dT (show (j:Int) < (ws.length:Int) by omega),dT (show (j:Int) < (Cq.length:Int) by omega)]
  simp only [cond_true]
  have hnx:qs Cq Fw ws j=if ws.getD j 0=0 then 0 else max 1 (qW Cq Fw ws j):=rfl
  by_cases c:ws.getD j 0=0
  ·rw [c]
   have et:(tab ws.length fun t=>if t < j then qs Cq Fw ws t else 0)=tab ws.length fun t=>if t < j+1 then qs Cq Fw ws t else 0:=by
    refine qq fun t _=>?_
    by_cases c2:t=j
    ·rw [c2,if_neg (by omega),if_pos (by omega),hnx,if_pos c]
    ·by_cases c3:t < j
     ·rw [if_pos c3,if_pos (by omega)]
     ·rw [if_neg c3,if_neg (by omega)]
   rw [et];rfl
  ·have c2:qU Fw j:=(hw.us j).1 (by have:=hw.bd j;omega)
   have hc2:=hn.cp j
   obtain ⟨q1,q2,q3,q4,q5,q6,q7,q8⟩:=gp hn hw hf c2
   have hb4:2*Cq.getD j 0*qe ws Fw (mS Cq Fw ws)=2*(Cq.getD j 0*qe ws Fw (mS Cq Fw ws)):=Int.mul_assoc _ _ _
   have hwj:=hw.bd j
   have w1:=qg (x:=2*Cq.getD j 0) (by omega) (by omega)
   have w2:=qg (x:=2*Cq.getD j 0*qe ws Fw (mS Cq Fw ws)) (by omega) (by omega)
   rw [show (ws.getD j 0==0)=false by simpa using c,cond_false]
   refine (qw (by rw [w1,w2];omega) _ _).trans ?_
   rw [w1,w2]
   rw [qg (x:=qe ws Fw j*Cq.getD (mS Cq Fw ws) 0) (by omega) (by omega),qg (x:=Cq.getD j 0*qe ws Fw (mS Cq Fw ws)) (by omega) (by omega),qg (x:=qe ws Fw j*Cq.getD (mS Cq Fw ws) 0+Cq.getD j 0*qe ws Fw (mS Cq Fw ws)) (by omega) (by omega),
    qg (x:=ws.getD j 0*(qe ws Fw j*Cq.getD (mS Cq Fw ws) 0+Cq.getD j 0*qe ws Fw (mS Cq Fw ws))) (by omega) (by omega)]
   rw [show IntKind.wrap IntKind.i64 (Int.tdiv (ws.getD j 0*(qe ws Fw j*Cq.getD (mS Cq Fw ws) 0+Cq.getD j 0*qe ws Fw (mS Cq Fw ws))) (2*Cq.getD j 0*qe ws Fw (mS Cq Fw ws)))=qW Cq Fw ws j from qg (x:=qW Cq Fw ws j) (by omega) (by omega),jp]
   have et:(tab ws.length fun k=>if k=j then max 1 (qW Cq Fw ws j) else if k < j then qs Cq Fw ws k else 0)=tab ws.length fun t=>if t < j+1 then qs Cq Fw ws t else 0:=by
    refine qq fun t _=>?_
    by_cases c2:t=j
    ·rw [if_pos c2,c2,if_pos (by omega),hnx,if_neg c]
    ·rw [if_neg c2]
     by_cases c3:t < j
     ·rw [if_pos c3,if_pos (by omega)]
     ·rw [if_neg c3,if_neg (by omega)]
   rw [et]
 ·show Lab (n+1) _ _ _ _ _ _ _ _ _ _=_
  rw [qLab,dF (show ¬ (ws.length:Int) < (ws.length:Int) by omega),cond_false]
  unfold qu
  exact congrArg some (qq fun t ht=>if_pos ht)
theorem jk (t:Nat):(qu Cq Fw ws).getD t 0=qs Cq Fw ws t:=by
 have hl:=hw.len
 by_cases h:t < ws.length
 ·exact qC _ h
 ·have:ws.getD t 0=0:=jh (by omega)
  unfold qs
  rw [if_pos this,jh (by unfold qu;rw [qp];omega)]
theorem g9:Wt Cq.length Fw (jt Cq Fw ws):=by
 have hl:=hw.len
 have hll:(qu Cq Fw ws).length=ws.length:=qp _ _
 unfold jt
 by_cases c:maxL (qu Cq Fw ws) < 50000
 ·rw [if_pos c]
  have hg:∀ t,(dbl (qu Cq Fw ws)).getD t 0=qs Cq Fw ws t*2:=fun t=>by
   by_cases h:t < ws.length
   ·unfold dbl;rw [qC _ (by omega),jk hn hw hf]
   ·have:ws.getD t 0=0:=jh (by omega)
    rw [jh (by unfold dbl;rw [qp];omega)]
    unfold qs
    rw [if_pos this];rfl
  refine ⟨by unfold dbl;rw [qp];omega,fun t=>?_,fun t=>?_⟩
  ·rw [hg]
   have h1:=jr hn hw hf t
   by_cases h:t < ws.length
   ·have:(qu Cq Fw ws).getD t 0∈qu Cq Fw ws:=qM (by omega) 0
    have:=gT this
    rw [jk hn hw hf] at this
    omega
   ·have:ws.getD t 0=0:=jh (by omega)
    unfold qs
    rw [if_pos this];omega
  ·rw [hg]
   have h1:=jr hn hw hf t
   rw [← h1.2.2]
   omega
 ·rw [if_neg c]
  refine ⟨by omega,fun t=>?_,fun t=>?_⟩
  ·rw [jk hn hw hf];have:=jr hn hw hf t;omega
  ·rw [jk hn hw hf];exact (jr hn hw hf t).2.2
end
theorem g8:∀ (n:Nat) (x0:Int) (x1:List (List Int)) (x2 x3:Int) (x4:List Int) (x5 x6:Int) (x7:List Int) (x8:List (List Int)) (x9 x10 o x12:List Int),Lbn n x0 x1 x2 x3 x4 x5 x6 x7 x8 x9 x10 o x12=Las n x0 x1 x2 x3 x4 x5 x6 x7 x8 x9 x10 x12
 | 0,_,_,_,_,_,_,_,_,_,_,_,_,_=>rfl
 | n+1,x0,x1,x2,x3,x4,x5,x6,x7,x8,x9,x10,o,x12=>by rw [qLbn,qLas];simp only [g8 n]
theorem GF {Cq:List Int} {Fw:List (List Int)} {ws:List Int} (hn:Nw Cq Fw) (hw:Wt Cq.length Fw ws) (lim old:List Int) (F:∀ fl,fl∈Fw→∀ s:List Int,v52 fl Cq Fw lim ws s=some (wS ws fl)):v48_1 Cq Fw lim ws old=some (qi ws Fw):=by
 have hf:=hn.nf
 have key:∀ (n:Nat) (i:Int) (j:Nat) (s:List Int),i=j→Lbp n Fw (Fw.length:Int) i Cq Fw lim ws old s=LaJ n Fw (Fw.length:Int) i Cq Fw lim ws s:=by
  intro n
  induction n with
  | zero=>intro i j s e;rfl
  | succ n ih=>
   intro i j s e
   subst e
   rw [qLbp,qLaJ]
   by_cases hj:j < Fw.length
   ·have hm:=jv Fw hj
    rw [up1 (by omega)]
    simp only [tN,F _ hm,g8]
    simp only [ih _ (j+1) _ rfl]
   ·rw [dF (show ¬ (j:Int) < (Fw.length:Int) by omega),cond_false,cond_false]
 have h:=Gv hn hw lim
 unfold v48 tv48 at h
 unfold v48_1 tv48_1
 rw [key _ 0 0 _ rfl]
 exact h
theorem v24_eq (x:Int):v24 x=some (x != 0):=rfl
theorem GC (l:List Int) (hl:Len l):v23_3 l=some (l.any fun x=>x != 0):=by
 have hl':l.length≤9223372036854775807:=hl
 obtain ⟨j,h1,h2⟩:=jT l hl (fun n=>n==0) (fun n i=>Lbi n l (l.length:Int) i) (fun n i hi=>by
  show Lbi (n+1) _ _ _=_
  rw [qLbi,dT (show (i:Int) < (l.length:Int) by omega),dT (show (0:Int)≤(i:Int) by omega),up1 (by omega)]
  simp only [cond_true,tN,v24_eq,qf,qd]
  rfl) fun n=>by
  show Lbi (n+1) _ _ _=_
  rw [qLbi,dF (show ¬ (l.length:Int) < (l.length:Int) by omega)]
  rfl
 unfold v23_3 v40_3 tv40_3
 rw [h1]
 simp only [qf,qd,cond_true]
 have h3:decide (j≥0)=l.any fun x=>x != 0:=by
  rw [show decide (j≥0)=!(!decide (j≥0)) by simp,h2]
  clear h1 h2 hl hl'
  induction l with
  | nil=>rfl
  | cons a l ih=>simp only [List.all_cons,List.any_cons,Bool.not_and,ih]<;>rfl
 exact congrArg some h3
theorem jM {links:Int}:∀ {l:List Int} {last:Int},q0 links last l=true→l.Nodup∧∀ k∈l,last < k∧k < links
 | [],_,_=>⟨List.nodup_nil,fun k hk=>nomatch hk⟩
 | k::r,last,h=>by
  unfold q0 at h
  by_cases c:last < k∧k < links
  ·rw [dT c] at h
   obtain ⟨h1,h2⟩:=jM (l:=r) h
   refine ⟨List.nodup_cons.2 ⟨fun hm=>by have:=h2 k hm;omega,h1⟩,fun x hx=>?_⟩
   rcases List.mem_cons.1 hx with rfl | hx
   ·exact c
   ·have:=h2 x hx;omega
  ·rw [dF c] at h;cases h
theorem nw_of {Cq:List Int} {Fw:List (List Int)} (h:qI Cq (qr Fw)=true):Nw Cq Fw:=by
 unfold qI at h
 simp only [Bool.and_eq_true,decide_eq_true_eq] at h
 obtain ⟨h1,h2,h3,h4⟩:=h
 have hl:(qr Fw).length=Fw.length:=List.length_map _
 have hp:∀ f∈Fw,q0 Cq.length (-1) f=true∧1≤f.length∧f.length≤6:=by
  intro f hf
  have:=List.all_eq_true.1 h4 [f] (List.mem_map.2 ⟨f,hf,rfl⟩)
  unfold jd at this
  rw [dT (show 1≤[f].length∧[f].length≤4 by simp)] at this
  simp only [cond_true,List.all_cons,List.all_nil,Bool.and_true] at this
  unfold qY at this
  cases hx:q0 Cq.length (-1) f with
  | false=>rw [hx] at this;cases this
  | true=>rw [hx] at this;exact ⟨rfl,by simpa using this⟩
 exact ⟨by omega,by omega,h1.2,fun t=>jL (by omega) h3 t,fun f hf=>(hp f hf).2,fun f hf=>(jM (hp f hf).1).1,fun f hf k hk=>by have:=(jM (hp f hf).1).2 k hk;omega⟩
section
variable {Cq : List Int} {Fw : List (List Int)} {ws : List Int} (hn : Nw Cq Fw) (hw : Wt Cq.length Fw ws) (hf : Fit Cq Fw)
include hn hw hf
theorem l29_32 (lim:List Int):Lai FU ((qu Cq Fw ws).length:Int) 0 Cq Fw lim ws (qi ws Fw) (qu Cq Fw ws)=some (dbl (qu Cq Fw ws)):=by
 have hl:=hw.len
 have hlk:=hn.lk
 have hll:(qu Cq Fw ws).length=ws.length:=qp _ _
 have e0:qu Cq Fw ws=tab ws.length fun t=>if t < 0 then qs Cq Fw ws t*2 else qs Cq Fw ws t:=qq fun t _=>by rw [if_neg (by omega)]
 have e1:dbl (qu Cq Fw ws)=tab ws.length fun t=>qs Cq Fw ws t*2:=by
  unfold dbl
  rw [hll]
  exact qq fun t ht=>by rw [jk hn hw hf]
 rw [e1]
 conv=>lhs;rw [hll];arg 9;rw [e0]
 refine qm (m:=ws.length) (by omega) (fun n j (s:List Int)=>Lai n (ws.length:Int) j Cq Fw lim ws (qi ws Fw) s) (fun j=>tab ws.length fun t=>if t < j then qs Cq Fw ws t*2 else qs Cq Fw ws t) _ (fun n j hj=>?_) (fun n=>?_)
 ·show Lai (n+1) _ _ _ _ _ _ _ _=Lai n _ _ _ _ _ _ _ _
  have hb:=jr hn hw hf j
  rw [qLai,dT (show (j:Int) < (ws.length:Int) by omega),dT (show (0:Int)≤(j:Int) by omega),up1 (by omega)]
  simp only [cond_true,tN,qp]
  rw [dT hj,dT (show (j:Int) < (ws.length:Int) by omega),qC _ hj,if_neg (show ¬ j < j by omega),qg (by omega) (by omega),jp]
  simp only [cond_true]
  have et:(tab ws.length fun k=>if k=j then qs Cq Fw ws j*2 else if k < j then qs Cq Fw ws k*2 else qs Cq Fw ws k)=tab ws.length fun t=>if t < j+1 then qs Cq Fw ws t*2 else qs Cq Fw ws t:=by
   refine qq fun t _=>?_
   by_cases c2:t=j
   ·rw [if_pos c2,c2,if_pos (by omega)]
   ·rw [if_neg c2]
    by_cases c3:t < j
    ·rw [if_pos c3,if_pos (by omega)]
    ·rw [if_neg c3,if_neg (by omega)]
  rw [et]
 ·show Lai (n+1) _ _ _ _ _ _ _ _=_
  rw [qLai,dF (show ¬ (ws.length:Int) < (ws.length:Int) by omega),cond_false]
  exact congrArg some (qq fun t ht=>if_pos ht)
theorem v29_eq (lim:List Int):v29 Cq Fw lim ws (qi ws Fw)=some (jt Cq Fw ws,qi (jt Cq Fw ws) Fw):=by
 have hl:=hw.len
 have hlk:=hn.lk
 have hm:=j9 hn hw hf
 have hld:(qi ws Fw).length=ws.length:=qp _ _
 have hll:(qu Cq Fw ws).length=ws.length:=qp _ _
 have hLm:(qi ws Fw).getD (mS Cq Fw ws) 0=qe ws Fw (mS Cq Fw ws):=qC _ (by omega)
 have hnw:=g9 hn hw hf
 have hv:=GF hn hnw lim (qi ws Fw) fun fl hfl s=>gk hn hnw hfl lim s
 unfold v29
 simp only [l29_0 hn hw hf lim,qf,qd,cond_true,tN,hLm,hld]
 rw [dT (show (0:Int)≤(mS Cq Fw ws:Int) by omega),dT (show (mS Cq Fw ws:Int) < (Cq.length:Int) by omega),dT (show (mS Cq Fw ws:Int) < (ws.length:Int) by omega),dT (show mS Cq Fw ws < ws.length by omega),dT (Int.le_refl _),dT (show (ws.length:Int)≤((nat_lit 2147483648:Nat):Int) by show (ws.length:Int)≤((2147483648:Nat):Int);omega)]
 simp only [l29_16 hn hw hf lim,qf,qd,cond_true]
 simp only [v53_eq (l:=qu Cq Fw ws) (by omega) (by omega),qf,qd,cond_true]
 unfold jt at hv ⊢
 by_cases c:maxL (qu Cq Fw ws) < 50000
 ·rw [if_pos c] at hv ⊢
  rw [dT c]
  simp only [l29_32 hn hw hf lim,hv,qf,qd,cond_true]
 ·rw [if_neg c] at hv ⊢
  rw [dF c]
  simp only [hv,qf,qd,cond_true,cond_false]
end
def wsN (Cq:List Int) (Fw:List (List Int)):Nat→List Int
 | 0=>qh Cq.length Fw
 | k+1=>jt Cq Fw (wsN Cq Fw k)
abbrev Best:=List (List Int)×List Int×Int
def jo (o:Best) (c:Cert):Best:=cond c.2.2.2 (if c.2.2.1 < o.2.2 then (c.1,c.2.1,c.2.2.1) else o) o
def qv (Cq:List Int) (Fw:List (List Int)):Nat→Best
 | 0=>((qt Cq (qh Cq.length Fw) Fw).1,(qt Cq (qh Cq.length Fw) Fw).2.1,(qt Cq (qh Cq.length Fw) Fw).2.2.1)
 | k+1=>jo (qv Cq Fw k) (qt Cq (wsN Cq Fw (k+1)) Fw)
section
variable {Cq : List Int} {Fw : List (List Int)} (hn : Nw Cq Fw) (hf : Fit Cq Fw)
include hn hf
theorem jK:∀ k,Wt Cq.length Fw (wsN Cq Fw k)
 | 0=>jg hn
 | k+1=>g9 hn (jK k) hf
theorem l13 (lim:List Int) {r:Nat} (hr:r≤1000):Lag FU (r:Int) 0 0 (qv Cq Fw 0).1 (qv Cq Fw 0).2.1 (qv Cq Fw 0).2.2 Cq Fw lim (wsN Cq Fw 0) (qi (wsN Cq Fw 0) Fw) [] []=some (qv Cq Fw r):=by
 refine qm (m:=r) (by omega) (fun n j (s:Best×List Int)=>Lag n (r:Int) j 0 s.1.1 s.1.2.1 s.1.2.2 Cq Fw lim s.2 (qi s.2 Fw) [] []) (fun j=>(qv Cq Fw j,wsN Cq Fw j)) _ (fun n j hj=>?_) (fun n=>?_)
 ·show Lag (n+1) _ _ _ _ _ _ _ _ _ _ _ _ _=Lag n _ _ _ _ _ _ _ _ _ _ _ _ _
  have e1:qv Cq Fw (j+1)=jo (qv Cq Fw j) (qt Cq (wsN Cq Fw (j+1)) Fw):=rfl
  have e2:wsN Cq Fw (j+1)=jt Cq Fw (wsN Cq Fw j):=rfl
  rw [qLag,dT (show (j:Int) < (r:Int) by omega),up1 (by omega)]
  simp only [v29_eq hn (jK hn hf j) hf lim,qf,qd,cond_true]
  rw [← e2]
  simp only [Gy hn (jK hn hf (j+1)) lim,qf,qd,cond_true]
  rw [e1]
  unfold jo
  cases (qt Cq (wsN Cq Fw (j+1)) Fw).2.2.2 with
  | false=>rfl
  | true=>
   simp only [cond_true]
   by_cases c:(qt Cq (wsN Cq Fw (j+1)) Fw).2.2.1 < (qv Cq Fw j).2.2
   ·rw [if_pos c,dT c];rfl
   ·rw [if_neg c,dF c];rfl
 ·show Lag (n+1) _ _ _ _ _ _ _ _ _ _ _ _ _=_
  rw [qLag,dF (show ¬ (r:Int) < (r:Int) by omega)]
  rfl
end
def askS (Cq:List Int) (Fw:List (List Int)) (lim:List Int) (r:Int):Bool:=
 qI Cq (qr Fw)&&(decide (lim.length=Fw.length)&&(!(lim.any fun x=>x != 0)&&(decide (0≤r)&&decide (r≤1000))))
def qL (Cq:List Int) (Fw:List (List Int)) (lim:List Int) (r:Int):List (List Int)×List Int×Int×Int:=
 cond (askS Cq Fw lim r) (cond (jb Cq Fw) ((qv Cq Fw r.toNat).1,(qv Cq Fw r.toNat).2.1,(qv Cq Fw r.toNat).2.2,0) ([],[],0,4)) ([],[],0,1)
theorem v13_eq {Cq:List Int} {Fw:List (List Int)} {lim:List Int} (r:Int) (h:Few Cq (qr Fw) [] []) (hlim:Len lim):v13 Cq Fw lim r=some (qL Cq Fw lim r):=by
 have hfl:Fw.length≤20:=by have:=h.hf;unfold qr at this;rw [List.length_map] at this;exact this
 unfold v13 tv13 qL askS
 rw [GC lim hlim,Gf Cq lim hfl]
 simp only [qf,qd,cond_true]
 rw [Gi h]
 simp only [qf,qd,cond_true,qK]
 cases h1:qI Cq (qr Fw) with
 | false=>rfl
 | true=>
  have hn:=nw_of h1
  by_cases c1:lim.length=Fw.length
  case neg=>rw [dF c1,show ((lim.length:Int) != (Fw.length:Int))=true by simp;omega];rfl
  rw [dT c1,show ((lim.length:Int) != (Fw.length:Int))=false by simp;omega]
  cases (lim.any fun x=>x != 0) with
  | true=>rfl
  | false=>
   by_cases c2:0≤r
   case neg=>rw [dF c2,dT (show r < 0 by omega)];rfl
   rw [dT c2,dF (show ¬ r < 0 by omega)]
   by_cases c3:r≤1000
   case neg=>rw [dF c3,dT (show r > 1000 by omega)];rfl
   rw [dT c3,dF (show ¬ r > 1000 by omega)]
   simp only [cond_true,cond_false,v27_eq hn lim,qf,qd,Bool.not_false,Bool.and_self]
   cases hfi:jb Cq Fw with
   | false=>rfl
   | true=>
    have hf:=(jS hn).1 hfi
    have e:=Gy hn (jg hn) lim
    have er:r=((r.toNat:Nat):Int):=by omega
    have e13:=l13 hn hf lim (r:=r.toNat) (by omega)
    rw [← er] at e13
    simp only [cond_true,e,qf,qd]
    rw [show Lag FU r 0 0 (qt Cq (qh Cq.length Fw) Fw).1 (qt Cq (qh Cq.length Fw) Fw).2.1 (qt Cq (qh Cq.length Fw) Fw).2.2.1 Cq Fw lim (qh Cq.length Fw) (qi (qh Cq.length Fw) Fw) [] []=some (qv Cq Fw r.toNat) from e13]
    rfl
theorem jU {α:Type} (g:α→Int) (l:List α) (d:α):qj l.length (fun t=>g (l.getD t d))=qz g l:=by
 have key:∀ j,j≤l.length→qj j (fun t=>g (l.getD t d))=qz g (l.take j):=by
  intro j
  induction j with
  | zero=>intro _;rfl
  | succ j ih=>intro h;rw [ju g l d (by omega)];simp only [qj];rw [ih (by omega)]
 rw [key l.length (Nat.le_refl _),qB]
theorem pk_on {l:List Int} (h:l.Nodup) (r:Int) (k:Nat):pk l r k=onS k r l:=by
 unfold pk
 rw [jU (fun x=>cond (x==(k:Int)) r 0)]
 induction l with
 | nil=>rfl
 | cons a l ih=>
  obtain ⟨h1,h2⟩:=List.nodup_cons.1 h
  simp only [qz]
  rw [ih h2]
  unfold onS
  by_cases c:a=(k:Int)
  ·rw [show (a==(k:Int))=true by simp [c],if_neg (c▸h1),if_pos (by simp [c])];simp
  ·rw [show (a==(k:Int))=false by simp [c]]
   by_cases c2:(k:Int)∈l
   ·rw [if_pos c2,if_pos (by simp [c2])];simp
   ·rw [if_neg c2,if_neg (by simp only [List.mem_cons];rintro (h | h);exact c h.symm;exact c2 h)];simp
theorem jF {Fw:List (List Int)} {i:Nat} (h:i < Fw.length):(qr Fw).getD i []=[Fw.getD i []]:=by
 unfold qr;rw [qS _ Fw [] [],if_pos h]
theorem jJ (Fw:List (List Int)):(qr Fw).length=Fw.length:=List.length_map _
theorem gw {α:Type}:∀ l:List α,qz (fun _=>0) l=0
 | []=>rfl
 | x::l=>by simp only [qz,gw l]<;>rfl
theorem GD {Fw Rq:List (List Int)} (hnd:∀ f∈Fw,f.Nodup) (k:Nat):qQ (qr Fw) Rq k=qj Fw.length fun i=>onS k (rt Rq i 0) (Fw.getD i []):=by
 unfold qQ
 rw [jJ]
 refine jx fun i hi=>?_
 have e:pth (qr Fw) i 0=Fw.getD i []:=by unfold pth;rw [jF hi];rfl
 rw [jF hi]
 show 0+pk (pth (qr Fw) i 0) (rt Rq i 0) k=_
 rw [e,pk_on (hnd _ (jv Fw hi)),Int.zero_add]
theorem j5 (Cq ws:List Int) {Fw:List (List Int)} {i:Nat} (h:i < Fw.length):(qy Cq ws Fw).getD i []=[qA Cq ws Fw (Fw.getD i [])]:=by
 unfold qy;rw [qS _ Fw [] [],if_pos h]
theorem Gw (l Pq:List Int):qF l Pq=qz (fun k=>Pq.getD k.toNat 0) l:=by
 unfold qF
 exact jU (fun k=>Pq.getD (Int.toNat k) 0) l 0
theorem j3 {α:Type} {g h:α→Int} {c p:Int}:∀ {l:List α},(∀ x∈l,c*g x≤p*h x)→c*qz g l≤p*qz h l
 | [],_=>by simp [qz]
 | x::l,hx=>by
  have h1:=hx x List.mem_cons_self
  have h2:=j3 (l:=l) fun y hy=>hx y (List.mem_cons_of_mem _ hy)
  simp only [qz]
  rw [Int.mul_add,Int.mul_add]
  omega
theorem gQ {p w:Int} (hp:1≤p) (hw:0≤w):1000000000000*w≤p*qH p w∧0≤qH p w∧p*qH p w≤1000000000000*w+p - 1:=by
 unfold qH
 rw [Int.tdiv_eq_ediv_of_nonneg (by omega)]
 have h2:=Int.mul_ediv_add_emod (w*1000000000000+p - 1) p
 have h3:=Int.emod_nonneg (w*1000000000000+p - 1) (show p≠0 by omega)
 have h4:=Int.emod_lt_of_pos (w*1000000000000+p - 1) (show 0 < p by omega)
 have h5:0≤(w*1000000000000+p - 1) / p:=Int.ediv_nonneg (by omega) (by omega)
 generalize (w*1000000000000+p - 1) % p=m at*
 generalize p*((w*1000000000000+p - 1) / p)=q at*
 omega
section
variable {Cq : List Int} {Fw : List (List Int)} {ws : List Int} (hn : Nw Cq Fw) (hw : Wt Cq.length Fw ws)
include hn hw
theorem Gc:qP Cq (qr Fw) (qy Cq ws Fw)=true:=by
 unfold qP
 refine List.all_eq_true.2 fun k hk=>?_
 have hk:k < Cq.length:=List.mem_range.1 hk
 have e:qQ (qr Fw) (qy Cq ws Fw) k=qz (fun f=>onS k (qA Cq ws Fw f) f) Fw:=by
  rw [GD hn.nd,← jU (fun f=>onS k (qA Cq ws Fw f) f) Fw []]
  refine jx fun i hi=>?_
  unfold rt
  rw [j5 Cq ws hi];rfl
 rw [e,dT]
 have hc:=hn.cp k
 have hb:=jf hn hw k
 have key:qe ws Fw k*qz (fun f=>onS k (qA Cq ws Fw f) f) Fw≤(1000000*Cq.getD k 0)*qz (fun f=>onS k (ql ws f) f) Fw:=by
  refine j3 fun f hf=>?_
  unfold onS
  by_cases c:(k:Int)∈f
  ·rw [if_pos c,if_pos c]
   have h1:qA Cq ws Fw f≤qD Cq ws Fw f k:=gS c
   have hp:=ja hn hw hf
   have hL:=gq hn hw hf c
   have h0:0≤ql ws f*Cq.getD k 0:=Int.mul_nonneg (by omega) hc.1
   have h2:qe ws Fw k*qD Cq ws Fw f k≤ql ws f*Cq.getD k 0*1000000:=by
    unfold qD
    rw [tN,Int.tdiv_eq_ediv_of_nonneg (by omega)]
    exact Int.mul_ediv_self_le (by omega)
   have h3:qe ws Fw k*qA Cq ws Fw f≤qe ws Fw k*qD Cq ws Fw f k:=Int.mul_le_mul_of_nonneg_left h1 hb.1
   have e2:1000000*Cq.getD k 0*ql ws f=ql ws f*Cq.getD k 0*1000000:=by rw [Int.mul_comm (ql ws f),Int.mul_comm _ 1000000,Int.mul_assoc]
   omega
  ·rw [if_neg c,if_neg c];simp
 by_cases c:qe ws Fw k=0
 ·have hnone:∀ f∈Fw,¬ (k:Int)∈f:=fun f hf hm=>by
   have:=jz hn hw ⟨f,hf,hm⟩
   omega
  rw [gj (g:=fun _=>0) fun f hf=>by unfold onS;rw [if_neg (hnone f hf)]]
  have:=gw Fw
  omega
 ·have e3:qz (fun f=>onS k (ql ws f) f) Fw=qe ws Fw k:=rfl
  rw [e3,Int.mul_comm _ (qe ws Fw k)] at key
  exact Int.le_of_mul_le_mul_left key (by omega)
theorem Gd {k:Int} (h0:0≤k) (h:k < (Cq.length:Int)):(qo Cq ws Fw).getD k.toNat 0=qH (qn Cq ws Fw) (ws.getD k.toNat 0):=by
 have hl:=hw.len
 unfold qo
 rw [qS _ ws 0 0,if_pos (by omega)]
theorem pay_ok (hp:qn Cq ws Fw≠0) {f:List Int} (hf:f∈Fw):1≤qA Cq ws Fw f∧1000000000000≤qF f (qo Cq ws Fw)*qA Cq ws Fw f:=by
 have hlb:=jY hn hw
 have hW:=jR hn hw hf
 have hr:=gf hn hw hf
 have hpay:qn Cq ws Fw≤qO Cq ws Fw f:=gS hf
 have e1:1000000000000*wS ws f≤qn Cq ws Fw*qF f (qo Cq ws Fw):=by
  rw [Gw]
  refine j3 fun k hk=>?_
  have hk:=hn.rg f hf k hk
  rw [Gd hn hw hk.1 hk.2]
  exact (gQ (by omega) (hw.bd _).1).1
 unfold qO at hpay
 generalize qn Cq ws Fw=p at*
 generalize qF f (qo Cq ws Fw)=q at*
 generalize qA Cq ws Fw f=x at*
 generalize wS ws f=W at*
 have hx:1≤x:=by
  rcases Int.lt_or_le 0 x with h | h
  ·omega
  ·have:x=0:=by omega
   rw [this,Int.mul_zero] at hpay;omega
 refine ⟨hx,?_⟩
 have hq:0≤q:=by
  refine Int.not_lt.1 fun h=>?_
  have:p*q≤p*0:=Int.mul_le_mul_of_nonneg_left (by omega) (by omega)
  omega
 have e2:p*q≤W*x*q:=Int.mul_le_mul_of_nonneg_right hpay hq
 have e3:W*1000000000000≤W*(q*x):=by
  have:W*x*q=W*(q*x):=by rw [Int.mul_assoc,Int.mul_comm x q]
  omega
 exact Int.le_of_mul_le_mul_left e3 (by omega)
theorem pays_ok (hp:qn Cq ws Fw≠0):jl (qr Fw) (qy Cq ws Fw) (qo Cq ws Fw)=true:=by
 unfold jl
 rw [jJ]
 refine List.all_eq_true.2 fun i hi=>?_
 have hi:i < Fw.length:=List.mem_range.1 hi
 rw [jF hi]
 refine List.all_eq_true.2 fun t ht=>?_
 have ht:t=0:=by have:=List.mem_range.1 ht;simp at this;exact this
 have e:pth (qr Fw) i 0=Fw.getD i []:=by unfold pth;rw [jF hi];rfl
 rw [ht,e,j5 Cq ws hi,dT]
 show _≤_*(0+qA Cq ws Fw (Fw.getD i []))
 rw [Int.zero_add]
 exact (pay_ok hn hw hp (jv Fw hi)).2
theorem GG (hp:qn Cq ws Fw≠0):jm Cq (qr Fw) (qy Cq ws Fw) (qo Cq ws Fw)=true:=by
 unfold jm
 rw [Gc hn hw,pays_ok hn hw hp];rfl
theorem GJ:q9 (qr Fw) (qy Cq ws Fw)=true:=by
 have hl:(qy Cq ws Fw).length=Fw.length:=List.length_map _
 unfold q9
 rw [jJ,hl,dT rfl,Bool.true_and]
 refine List.all_eq_true.2 fun i hi=>?_
 have hi:i < Fw.length:=List.mem_range.1 hi
 have hb:=gf hn hw (jv Fw hi)
 rw [j5 Cq ws hi,jF hi]
 generalize qA Cq ws Fw (Fw.getD i [])=x at*
 simp [upto];omega
end
section
variable {Cq : List Int} {Fw : List (List Int)} (hn : Nw Cq Fw) (hf : Fit Cq Fw)
include hn
theorem jC (t:Nat):(qh Cq.length Fw).getD t 0=cond (qE Fw t) 1000 0:=by
 by_cases h:t < Cq.length
 ·exact qC _ h
 ·rw [jh (by unfold qh;rw [qp];omega)]
  cases hu:qE Fw t with
  | false=>rfl
  | true=>exact absurd (j7 hn (used_iff.1 hu)) h
theorem gF {f:List Int} (hf:f∈Fw):1000≤wS (qh Cq.length Fw) f∧wS (qh Cq.length Fw) f≤6000:=by
 have hl:=hn.h1 f hf
 have h:=qZ (g:=fun k=>(qh Cq.length Fw).getD k.toNat 0) (c:=1000) (m:=6) (by omega) hl.2 fun k hk=>by
  rw [jC hn];cases qE Fw k.toNat<;>simp
 obtain ⟨k,hk⟩:=List.exists_mem_of_length_pos (by omega:0 < f.length)
 have h1:=jO (g:=fun k=>(qh Cq.length Fw).getD k.toNat 0) (l:=f) (fun y _=>by rw [jC hn];cases qE Fw y.toNat<;>simp) hk
 have h2:(qh Cq.length Fw).getD k.toNat 0=1000:=by rw [jC hn,used_iff.2 (jq hf hk (hn.rg f hf k hk).1)];rfl
 unfold wS
 have h3:=h.2
 constructor
 ·simp only [h2] at h1;exact h1
 ·omega
theorem gh {f:List Int} (hf:f∈Fw):166666≤ql (qh Cq.length Fw) f∧ql (qh Cq.length Fw) f≤1000000:=by
 have h:=gF hn hf
 unfold ql
 rw [Int.tdiv_eq_ediv_of_nonneg (by omega)]
 constructor
 ·rw [Int.le_ediv_iff_mul_le (by omega)];omega
 ·have:1000000000 / wS (qh Cq.length Fw) f < 1000001:=by rw [Int.ediv_lt_iff_lt_mul (by omega)];omega
  omega
theorem Ge (t:Nat):qe (qh Cq.length Fw) Fw t≤8000000:=by
 have:=qZ (g:=fun fl=>onS t (ql (qh Cq.length Fw) fl) fl) (c:=1000000) (m:=8) (by omega) hn.nf fun f hf=>by
  have:=gh hn hf
  unfold onS;split<;>omega
 have h:=this.2
 unfold qe
 omega
include hf
theorem Gk {f:List Int} (hff:f∈Fw):20833000≤qO Cq (qh Cq.length Fw) Fw f:=by
 have hw:=jg hn
 obtain ⟨k,hk,e⟩:=j8 (g:=qD Cq (qh Cq.length Fw) Fw f) (l:=f) (by have:=hn.h1 f hff;omega)
 have hr:=hn.rg f hff k hk
 have hu:=jq hff hk hr.1
 have hc:=hf _ hu
 have hp:=gh hn hff
 have hL:=jz hn hw hu
 have hL2:=Ge hn k.toNat
 have hW:=gF hn hff
 have h1:20833≤qA Cq (qh Cq.length Fw) Fw f:=by
  unfold qA
  rw [e]
  unfold qD
  have h0:166666*1≤ql (qh Cq.length Fw) f*Cq.getD k.toNat 0:=Int.mul_le_mul hp.1 hc (by omega) (by omega)
  rw [Int.tdiv_eq_ediv_of_nonneg (by omega),Int.le_ediv_iff_mul_le (by omega)]
  omega
 unfold qO
 have:1000*20833≤wS (qh Cq.length Fw) f*qA Cq (qh Cq.length Fw) Fw f:=Int.mul_le_mul hW.1 h1 (by omega) (by omega)
 omega
theorem ga:20833000≤qn Cq (qh Cq.length Fw) Fw:=by
 obtain ⟨f,hff,e⟩:=j8 (g:=qO Cq (qh Cq.length Fw) Fw) (l:=Fw) (by have:=hn.f1;omega)
 unfold qn
 rw [e]
 exact Gk hn hf hff
theorem gb (t:Nat):0≤(qo Cq (qh Cq.length Fw) Fw).getD t 0∧(qo Cq (qh Cq.length Fw) Fw).getD t 0≤48001000:=by
 have hp:=ga hn hf
 unfold qo
 rw [qS _ (qh Cq.length Fw) 0 0]
 split
 ·have hw:=jC hn t
  have hb:0≤(qh Cq.length Fw).getD t 0∧(qh Cq.length Fw).getD t 0≤1000:=by rw [hw];cases qE Fw t<;>simp
  generalize (qh Cq.length Fw).getD t 0=w at*
  generalize qn Cq (qh Cq.length Fw) Fw=p at*
  obtain ⟨h1,h2,h3⟩:=gQ (p:=p) (w:=w) (by omega) hb.1
  refine ⟨h2,Int.not_lt.1 fun h=>?_⟩
  have:p*48001001≤p*qH p w:=Int.mul_le_mul_of_nonneg_left (by omega) (by omega)
  omega
 ·omega
theorem gH (hv:qI Cq (qr Fw)=true):(qt Cq (qh Cq.length Fw) Fw).2.2.2=true∧qn Cq (qh Cq.length Fw) Fw≠0:=by
 have hw:=jg hn
 have hp:=ga hn hf
 have hpl:(qo Cq (qh Cq.length Fw) Fw).length=Cq.length:=by unfold qo qh;rw [List.length_map,qp]
 have hps:qT Cq (qo Cq (qh Cq.length Fw) Fw)=true:=by
  unfold qT
  rw [hpl,dT rfl,Bool.true_and]
  unfold upto
  refine List.all_eq_true.2 fun x hx=>?_
  obtain ⟨i,hi,e⟩:=List.getElem_of_mem hx
  have:=gb hn hf i
  rw [List.getD_eq_getElem?_getD,List.getElem?_eq_getElem hi,Option.getD_some,e] at this
  rw [dT];omega
 have hcost:qN Cq (qo Cq (qh Cq.length Fw) Fw)≤384008000000:=by
  unfold qN
  have hlk:=hn.lk
  have:=jj (n:=(qo Cq (qh Cq.length Fw) Fw).length) (m:=8) (f:=fun k=>(qo Cq (qh Cq.length Fw) Fw).getD k 0*Cq.getD k 0) (c:=48001000*1000) (by omega) (fun i _=>by
   have h1:=gb hn hf i
   have h2:=hn.cp i
   exact ⟨Int.mul_nonneg h1.1 h2.1,Int.mul_le_mul h1.2 h2.2 h2.1 (by omega)⟩) (by omega)
  have h:=this.2
  omega
 have hfl:=hn.nf
 refine ⟨?_,by omega⟩
 unfold qt
 rw [if_neg (by omega)]
 show decide ((qX Cq (qr Fw) (qy Cq (qh Cq.length Fw) Fw) (qo Cq (qh Cq.length Fw) Fw)).2=0)=true
 unfold qX
 rw [hv,GJ hn hw,hps,GG hn hw (by omega),jJ,dT (show max 0 (qN Cq (qo Cq (qh Cq.length Fw) Fw) - 1000000*(Fw.length:Int))≤1000000000000 by omega)]
 rfl
theorem gR (hv:qI Cq (qr Fw)=true):∀ k,∃ ws,Wt Cq.length Fw ws∧qn Cq ws Fw≠0∧(qv Cq Fw k).1=qy Cq ws Fw∧(qv Cq Fw k).2.1=qo Cq ws Fw∧
  qX Cq (qr Fw) (qv Cq Fw k).1 (qv Cq Fw k).2.1=((qv Cq Fw k).2.2,0)
 | 0=>by
  have h:=gH hn hf hv
  refine ⟨qh Cq.length Fw,jg hn,h.2,?_⟩
  have h1:=h.1
  show (qt Cq (qh Cq.length Fw) Fw).1=_∧(qt Cq (qh Cq.length Fw) Fw).2.1=_∧qX Cq (qr Fw) (qt Cq (qh Cq.length Fw) Fw).1 (qt Cq (qh Cq.length Fw) Fw).2.1=((qt Cq (qh Cq.length Fw) Fw).2.2.1,0)
  unfold qt at h1 ⊢
  rw [if_neg h.2] at h1 ⊢
  have h1:=of_decide_eq_true h1
  exact ⟨rfl,rfl,Prod.ext rfl h1⟩
 | k+1=>by
  have ih:=gR hv k
  show ∃ ws,Wt Cq.length Fw ws∧qn Cq ws Fw≠0∧(jo (qv Cq Fw k) (qt Cq (wsN Cq Fw (k+1)) Fw)).1=qy Cq ws Fw∧(jo (qv Cq Fw k) (qt Cq (wsN Cq Fw (k+1)) Fw)).2.1=qo Cq ws Fw∧qX Cq (qr Fw) (jo (qv Cq Fw k) (qt Cq (wsN Cq Fw (k+1)) Fw)).1 (jo (qv Cq Fw k) (qt Cq (wsN Cq Fw (k+1)) Fw)).2.1=((jo (qv Cq Fw k) (qt Cq (wsN Cq Fw (k+1)) Fw)).2.2,0)
  unfold jo
  cases h1:(qt Cq (wsN Cq Fw (k+1)) Fw).2.2.2 with
  | false=>exact ih
  | true=>
   simp only [cond_true]
   by_cases c:(qt Cq (wsN Cq Fw (k+1)) Fw).2.2.1 < (qv Cq Fw k).2.2
   ·rw [if_pos c]
    refine ⟨wsN Cq Fw (k+1),jK hn hf (k+1),?_⟩
    by_cases c2:qn Cq (wsN Cq Fw (k+1)) Fw=0
    ·exfalso
     unfold qt at h1
     rw [if_pos c2] at h1
     cases h1
    ·refine ⟨c2,?_⟩
     unfold qt at h1 ⊢
     rw [if_neg c2] at h1 ⊢
     have h1:=of_decide_eq_true h1
     exact ⟨rfl,rfl,Prod.ext rfl h1⟩
   ·rw [if_neg c];exact ih
end
def jX (Cq:List Int) (Fw:List (List Int)) (lim:List Int):Bool:=
 cond (Fw.all fun f=>decide (f.length≤20)) (cond (decide (Cq.length≤20)) (cond (decide (Fw.length≤20)) (decide (lim.length≤40)) false) false) false
theorem v12_eq {Cq:List Int} {Fw:List (List Int)} {lim:List Int} (hl:Len Fw):v12 Cq Fw lim=some (jX Cq Fw lim):=by
 have hl':Fw.length≤9223372036854775807:=hl
 have h0:=qG (m:=Fw.length) (by omega) (fun n j=>LaW n j Cq Fw lim) (fun j=>decide ((Fw.getD j []).length≤20)) (fun n i hi=>by
  show LaW (n+1) _ _ _ _=_
  rw [qLaW,dT (show (i:Int) < (Fw.length:Int) by omega),dT (show (0:Int)≤(i:Int) by omega),up1 (by omega)]
  simp only [cond_true,tN,dgt,qK]) fun n=>by
  show LaW (n+1) _ _ _ _=_
  rw [qLaW,dF (show ¬ (Fw.length:Int) < (Fw.length:Int) by omega)]
  rfl
 rw [qR Fw [] fun f=>decide (f.length≤20)] at h0
 have h0:LaW FU 0 Cq Fw lim=_:=h0
 unfold v12 tv12 jX
 rw [h0]
 cases Fw.all fun f=>decide (f.length≤20) with
 | false=>rfl
 | true=>
  simp only [cond_true,jH,jA,qf,cond_false]
  rw [show decide ((Cq.length:Int)≤20)=decide (Cq.length≤20) from decide_eq_decide.2 (by omega),show decide ((Fw.length:Int)≤20)=decide (Fw.length≤20) from decide_eq_decide.2 (by omega),show decide ((lim.length:Int)≤40)=decide (lim.length≤40) from decide_eq_decide.2 (by omega)]
  cases decide (Cq.length≤20)<;>cases decide (Fw.length≤20)<;>rfl
theorem jP {Cq:List Int} {Fw:List (List Int)} {lim:List Int} (h:jX Cq Fw lim=true):Cq.length≤20∧Fw.length≤20∧lim.length≤40∧∀ f∈Fw,f.length≤20:=by
 unfold jX at h
 cases h1:Fw.all fun f=>decide (f.length≤20) with
 | false=>rw [h1] at h;cases h
 | true=>
  rw [h1] at h
  by_cases c1:Cq.length≤20
  case neg=>rw [dF c1] at h;cases h
  by_cases c2:Fw.length≤20
  case neg=>rw [dF c2] at h;simp at h
  rw [dT c1,dT c2] at h
  exact ⟨c1,c2,by simpa using h,fun f hf=>by simpa using List.all_eq_true.1 h1 f hf⟩
theorem gU {Cq:List Int} {Fw Rq:List (List Int)} {Pq:List Int} (h1:Cq.length≤20) (h2:Fw.length≤20) (h3:∀ f∈Fw,f.length≤20) (hr:Rq.length≤20) (hri:∀ i,(Rq.getD i []).length≤20) (hp:Pq.length≤20):Few Cq (qr Fw) Rq Pq:=by
 refine ⟨h1,by rw [jJ];exact h2,hr,hp,fun i=>?_,fun i k=>?_,hri⟩
 ·unfold qr;rw [qS _ Fw [] []];split<;>simp
 ·unfold qr;rw [qS _ Fw [] []]
  split
  ·rename_i hi
   have:=h3 _ (jv Fw hi)
   cases k with
   | zero=>show (Fw.getD i []).length≤20;omega
   | succ k=>show (([]:List (List Int)).getD k []).length≤20;simp
  ·simp
theorem GE {Cq:List Int} {Fw:List (List Int)} {lim:List Int} (r:Int) (h:jX Cq Fw lim=true):v13 Cq Fw lim r=some (qL Cq Fw lim r):=by
 obtain ⟨h1,h2,h3,h4⟩:=jP h
 exact v13_eq r (gU h1 h2 h4 (by simp) (by simp) (by simp)) (show lim.length≤9223372036854775807 by omega)
theorem GI {Cq:List Int} {Fw:List (List Int)} {lim:List Int} {r:Int} (h:(qL Cq Fw lim r).2.2.2=0):askS Cq Fw lim r=true∧jb Cq Fw=true∧qI Cq (qr Fw)=true∧Nw Cq Fw∧Fit Cq Fw∧qL Cq Fw lim r=((qv Cq Fw r.toNat).1,(qv Cq Fw r.toNat).2.1,(qv Cq Fw r.toNat).2.2,0):=by
 unfold qL at h ⊢
 cases h1:askS Cq Fw lim r with
 | false=>rw [h1] at h;simp at h
 | true=>
  rw [h1] at h
  cases h2:jb Cq Fw with
  | false=>rw [h2] at h;simp at h
  | true=>
   have hv:qI Cq (qr Fw)=true:=by unfold askS at h1;exact (Bool.and_eq_true_iff.1 h1).1
   have hn:=nw_of hv
   exact ⟨rfl,rfl,hv,hn,(jS hn).1 h2,rfl⟩
theorem Gn (Cq lim:List Int) {Fw:List (List Int)} (hf:Fw.length≤20):v17 Cq Fw lim=some (qr Fw):=by
 have h0:LaU FU 0 Cq Fw lim Cq [] [] []=some (qr Fw):=by
  refine qm (m:=Fw.length) (by omega) (fun n j (s:List (List (List Int)))=>LaU n j Cq Fw lim Cq [] [] s) (fun j=>qr (Fw.take j)) _ (fun n j hj=>?_) (fun n=>?_)
  ·show LaU (n+1) _ _ _ _ _ _ _ _=LaU n _ _ _ _ _ _ _ _
   rw [qLaU,dT (show (j:Int) < (Fw.length:Int) by omega),dT (show (0:Int)≤(j:Int) by omega),up1 (by omega)]
   simp only [cond_true,tN]
   refine (qw (by unfold qr;simp only [List.length_map,List.length_take,List.length_singleton];show _≤2147483648;omega) _ _).trans ?_
   have e:qr (Fw.take j)++[[Fw.getD j []]]=qr (Fw.take (j+1)):=by unfold qr;rw [qJ Fw [] hj,List.map_append];rfl
   rw [e]
  ·show LaU (n+1) _ _ _ _ _ _ _ _=_
   rw [qLaU,dF (show ¬ (Fw.length:Int) < (Fw.length:Int) by omega),qB]
   rfl
 unfold v17
 rw [h0];rfl
theorem v16_eq {Cq:List Int} {Fw:Fl} {Rq:List (List Int)} (hf:Fw.length≤20) (hfl:∀ i,(Fw.getD i []).length≤20):v16 Cq Fw Rq=some (q9 Fw Rq):=by
 unfold v16 tv16 q9
 rw [js]
 simp only [qK]
 by_cases c1:Rq.length=Fw.length
 case neg=>rw [dF c1];rfl
 rw [dT c1]
 have hL:LaV FU Rq 0 Cq Fw=some (cond ((List.range Rq.length).all fun i=>cond (decide ((Rq.getD i []).length=(Fw.getD i []).length)) (upto 1000000000 (Rq.getD i [])) false) (.inr ()) (.inl false)):=by
  refine qG (m:=Rq.length) (by omega) (fun n j=>LaV n Rq j Cq Fw) _ (fun n i hi=>?_) fun n=>?_
  ·show LaV (n+1) _ _ _ _=_
   have h20:=hfl i
   have h16:(Rq.getD i []).length=(Fw.getD i []).length→Lan FU Rq (i:Int) 0 Cq Fw=some (cond (upto 1000000000 (Rq.getD i [])) (.inr ()) (.inl false)):=by
    intro hl
    unfold upto
    rw [← qR (Rq.getD i []) 0 fun n=>decide (0≤n∧n≤1000000000)]
    refine qG (m:=(Rq.getD i []).length) (by omega) (fun n j=>Lan n Rq (i:Int) j Cq Fw) _ (fun n j hj=>?_) fun n=>?_
    ·show Lan (n+1) _ _ _ _ _=_
     rw [qLan,dT (show (0:Int)≤(i:Int) by omega),dT (show (i:Int) < (Rq.length:Int) by omega)]
     simp only [cond_true,tN]
     rw [dT (show (j:Int) < ((Rq.getD i []).length:Int) by omega),dT (show (0:Int)≤(j:Int) by omega),up1 (by omega)]
     simp only [cond_true]
     by_cases c2:(Rq.getD i []).getD j 0 < 0
     ·rw [dT c2,dF (show ¬ (0≤(Rq.getD i []).getD j 0∧(Rq.getD i []).getD j 0≤1000000000) by omega)];rfl
     by_cases c3:(Rq.getD i []).getD j 0 > 1000000000
     ·rw [dF c2,dT c3,dF (show ¬ (0≤(Rq.getD i []).getD j 0∧(Rq.getD i []).getD j 0≤1000000000) by omega)];rfl
     rw [dF c2,dF c3,dT (show 0≤(Rq.getD i []).getD j 0∧(Rq.getD i []).getD j 0≤1000000000 by omega)];rfl
    ·show Lan (n+1) _ _ _ _ _=_
     rw [qLan,dT (show (0:Int)≤(i:Int) by omega),dT (show (i:Int) < (Rq.length:Int) by omega)]
     simp only [cond_true,tN]
     rw [dF (show ¬ ((Rq.getD i []).length:Int) < ((Rq.getD i []).length:Int) by omega)]
     rfl
   rw [qLaV,dT (show (i:Int) < (Rq.length:Int) by omega),dT (show (0:Int)≤(i:Int) by omega),dT (show (i:Int) < (Fw.length:Int) by omega),up1 (by omega)]
   simp only [cond_true,tN]
   rw [js]
   simp only [qK]
   by_cases c:(Rq.getD i []).length=(Fw.getD i []).length
   ·rw [dT c,h16 c]
    simp only [cond_true]
    cases upto 1000000000 (Rq.getD i [])<;>rfl
   ·rw [dF c];rfl
  ·show LaV (n+1) _ _ _ _=_
   rw [qLaV,dF (show ¬ (Rq.length:Int) < (Rq.length:Int) by omega)]
   rfl
 rw [hL]
 simp only [cond_true,Bool.true_and]
 cases (List.range Rq.length).all fun i=>cond (decide ((Rq.getD i []).length=(Fw.getD i []).length)) (upto 1000000000 (Rq.getD i [])) false<;>rfl
theorem gO {n p:Nat} {f:Nat→Int} (hp:p < n) (h:∀ i,i < n→i≠p→f i=0):qj n f=f p:=by
 induction n with
 | zero=>omega
 | succ n ih=>
  simp only [qj]
  by_cases e:n=p
  ·subst e
   rw [jx (g:=fun _=>0) fun i hi=>h i (by omega) (by omega),jW];omega
  ·rw [ih (by omega) fun i hi hne=>h i (by omega) hne,h n (by omega) e];omega
theorem gL (l:List Int) (hl:l.length≤20) (k:Int):v55 l k=some (l.any (·==k)):=by
 unfold v55 tv55
 have h0:=gE (m:=l.length) (by omega) (fun n j=>Lbk n l k j) (fun j=>l.getD j 0==k) (fun n j hj=>by
  show Lbk (n+1) _ _ _=_
  rw [qLbk,dT (show (j:Int) < (l.length:Int) by omega),dT (show (0:Int)≤(j:Int) by omega),up1 (by omega)]
  simp only [cond_true,tN]) fun n=>by
  show Lbk (n+1) _ _ _=_
  rw [qLbk,dF (show ¬ (l.length:Int) < (l.length:Int) by omega)]
  rfl
 rw [jE l 0 fun x=>x==k] at h0
 rw [h0]
 cases l.any fun x=>x==k<;>rfl
section
variable {Cq : List Int} {Fw : Fl} {Rq : List (List Int)} {Pq : List Int} (h : Ok Cq Fw Rq Pq)
include h
theorem pk_at {i t:Nat} (hi:i < Fw.length) (ht:t < (Fw.getD i []).length) (r:Int) (k:Nat):pk (pth Fw i t) r k=cond ((pth Fw i t).any (·==(k:Int))) r 0:=by
 unfold pk
 cases ha:(pth Fw i t).any (·==(k:Int)) with
 | true=>
  rw [← jE (pth Fw i t) 0 fun x=>x==(k:Int)] at ha
  obtain ⟨p,hp,he⟩:=List.any_eq_true.1 ha
  have hp':=List.mem_range.1 hp
  rw [gO hp' (fun j hj hne=>?_),he]
  have he':(pth Fw i t).getD p 0=(k:Int):=by simpa using he
  have hd:(pth Fw i t).getD j 0≠(k:Int):=by
   intro e
   by_cases hlt:j < p
   ·have:=h.inc i t j p hi ht hlt hp';omega
   ·have:=h.inc i t p j hi ht (by omega) hj;omega
  rw [beq_false_of_ne hd];rfl
 | false=>
  rw [jx (g:=fun _=>0) (fun j hj=>?_),jW];rfl
  have:=List.any_eq_false.1 ha _ (qM hj 0)
  rw [Bool.eq_false_iff.2 this];rfl
theorem l35_16 {i:Nat} (hi:i < Fw.length) (k:Nat) (s:Int) (hs:0≤s∧s≤20*(20*(20*1000000000))) :
  Lar FU Rq (k:Int) s (i:Int) 0 Cq Fw=some (s+qj (Fw.getD i []).length fun t=>pk (pth Fw i t) (rt Rq i t) k):=by
 have h4:=(h.sub i hi).2
 have hrl:=h.rli i hi
 have hr:=h.rl
 have:=qm (m:=(Fw.getD i []).length) (by omega) (fun n j (s:Int)=>Lar n Rq (k:Int) s (i:Int) j Cq Fw) (fun j=>s+qj j fun t=>pk (pth Fw i t) (rt Rq i t) k)
  (s+qj (Fw.getD i []).length fun t=>pk (pth Fw i t) (rt Rq i t) k) (fun n j hj=>?_) fun n=>?_
 ·simp only [qj,Int.add_zero] at this
  exact this
 ·show Lar (n+1) _ _ _ _ _ _ _=Lar n _ _ _ _ _ _ _
  have hb:=gn h (i:=i) (j:=j+1) (by omega) k
  have hb0:=gn h (i:=i) (j:=j) (by omega) k
  have hh:=(h.hop i j hi hj).2
  have hp:=pk_at h hi hj (rt Rq i j) k
  have hrt:rt Rq i j=(Rq.getD i []).getD j 0:=rfl
  have hrb:=h.rate i j
  rw [qLar,dT (show (0:Int)≤(i:Int) by omega),dT (show (i:Int) < (Fw.length:Int) by omega)]
  simp only [cond_true,tN]
  rw [dT (show (j:Int) < ((Fw.getD i []).length:Int) by omega),dT (show (0:Int)≤(j:Int) by omega),dT (show (i:Int) < (Rq.length:Int) by omega),dT (show (j:Int) < ((Rq.getD i []).length:Int) by omega),gL _ (show (pth Fw i j).length≤20 by omega),up1 (by omega)]
  simp only [cond_true,qf,qd]
  simp only [qj] at hb ⊢
  rw [hp] at hb ⊢
  cases (pth Fw i j).any (·==(k:Int)) with
  | true=>
   simp only [cond_true] at hb ⊢
   rw [qg (by omega) (by omega)]
   congr 1
   omega
  | false=>simp only [cond_false,Int.add_zero]
 ·show Lar (n+1) _ _ _ _ _ _ _=_
  rw [qLar,dT (show (0:Int)≤(i:Int) by omega),dT (show (i:Int) < (Fw.length:Int) by omega)]
  simp only [cond_true,tN]
  rw [dF (show ¬ ((Fw.getD i []).length:Int) < ((Fw.getD i []).length:Int) by omega)]
  rfl
theorem v35_eq (k:Nat):v35 Cq Fw Rq (k:Int)=some (qQ Fw Rq k):=by
 have hf:=h.few.hf
 have h0:LaE FU Rq (k:Int) 0 0 Cq Fw=some (qQ Fw Rq k):=by
  refine qm (m:=Fw.length) (by omega) (fun n j (s:Int)=>LaE n Rq (k:Int) s j Cq Fw) (fun j=>qj j fun i=>qj (Fw.getD i []).length fun t=>pk (pth Fw i t) (rt Rq i t) k) (qQ Fw Rq k) (fun n i hi=>?_) fun n=>?_
  ·show LaE (n+1) _ _ _ _ _ _=LaE n _ _ _ _ _ _
   rw [qLaE,dT (show (i:Int) < (Fw.length:Int) by omega),l35_16 h hi k _ (gW h (by omega) k),up1 (by omega)]
   rfl
  ·show LaE (n+1) _ _ _ _ _ _=_
   rw [qLaE,dF (show ¬ (Fw.length:Int) < (Fw.length:Int) by omega)]
   rfl
 unfold v35
 rw [h0];rfl
theorem v18_eq:v18 Cq Fw Rq=some (qP Cq Fw Rq):=by
 have hc:=h.few.hc
 have h0:LaM FU Rq 0 Cq Fw=some (cond (qP Cq Fw Rq) (.inr ()) (.inl false)):=by
  unfold qP
  refine qG (m:=Cq.length) (by omega) (fun n j=>LaM n Rq j Cq Fw) _ (fun n k hk=>?_) fun n=>?_
  ·show LaM (n+1) _ _ _ _=_
   have hcap:=h.cap k
   have w1:IntKind.wrap IntKind.i64 (1000000*Cq.getD k 0)=1000000*Cq.getD k 0:=qg (by omega) (by omega)
   rw [qLaM,v35_eq h k,dT (show (k:Int) < (Cq.length:Int) by omega),dT (show (0:Int)≤(k:Int) by omega),up1 (by omega)]
   simp only [cond_true,tN,qf,qd,w1]
   by_cases c:qQ Fw Rq k≤1000000*Cq.getD k 0
   ·rw [dT c,dF (show ¬ qQ Fw Rq k > 1000000*Cq.getD k 0 by omega)];rfl
   ·rw [dF c,dT (show qQ Fw Rq k > 1000000*Cq.getD k 0 by omega)];rfl
  ·show LaM (n+1) _ _ _ _=_
   rw [qLaM,dF (show ¬ (Cq.length:Int) < (Cq.length:Int) by omega)]
   rfl
 unfold v18 tv18
 rw [h0]
 cases qP Cq Fw Rq<;>rfl
end
section
variable {Cq : List Int} {Fw : Fl} {Rq : List (List Int)} {Pq : List Int} (h : Ok Cq Fw Rq Pq)
include h
theorem v79_eq (i:Nat):v79 (Rq.getD i [])=some (qx (Rq.getD i [])):=by
 have hl:=h.few.rate i
 have h0:LaF FU (Rq.getD i []) 0 0=some (qx (Rq.getD i [])):=by
  refine qm (m:=(Rq.getD i []).length) (by omega) (fun n j (s:Int)=>LaF n (Rq.getD i []) s j) (fun j=>qj j fun t=>rt Rq i t) (qx (Rq.getD i [])) (fun n j hj=>?_) fun n=>?_
  ·show LaF (n+1) _ _ _=LaF n _ _ _
   have hb:=gK h (i:=i) (j:=j+1) (by omega)
   have hrt:rt Rq i j=(Rq.getD i []).getD j 0:=rfl
   simp only [qj] at hb ⊢
   rw [qLaF,dT (show (j:Int) < ((Rq.getD i []).length:Int) by omega),dT (show (0:Int)≤(j:Int) by omega),up1 (by omega)]
   simp only [cond_true,tN]
   rw [qg (by omega) (by omega)]
  ·show LaF (n+1) _ _ _=_
   rw [qLaF,dF (show ¬ ((Rq.getD i []).length:Int) < ((Rq.getD i []).length:Int) by omega)]
   rfl
 unfold v79
 rw [h0];rfl
end
theorem v73_eq {Cq:List Int} {Fw:Fl} {Rq:List (List Int)} {Pq:List Int} (h:Few Cq Fw Rq Pq):v73 Cq Fw Pq=some (qT Cq Pq):=by
 have hp:=h.hp
 have h0:LaY FU Pq 0 Cq Fw=some (cond (upto 1000000000000 Pq) (.inr ()) (.inl false)):=by
  unfold upto
  rw [← qR Pq 0 fun n=>decide (0≤n∧n≤1000000000000)]
  refine qG (m:=Pq.length) (by omega) (fun n j=>LaY n Pq j Cq Fw) _ (fun n j hj=>?_) fun n=>?_
  ·show LaY (n+1) _ _ _ _=_
   rw [qLaY,dT (show (j:Int) < (Pq.length:Int) by omega),dT (show (0:Int)≤(j:Int) by omega),up1 (by omega)]
   simp only [cond_true,tN]
   by_cases c2:Pq.getD j 0 < 0
   ·rw [dT c2,dF (show ¬ (0≤Pq.getD j 0∧Pq.getD j 0≤1000000000000) by omega)];rfl
   by_cases c3:Pq.getD j 0 > 1000000000000
   ·rw [dF c2,dT c3,dF (show ¬ (0≤Pq.getD j 0∧Pq.getD j 0≤1000000000000) by omega)];rfl
   rw [dF c2,dF c3,dT (show 0≤Pq.getD j 0∧Pq.getD j 0≤1000000000000 by omega)];rfl
  ·show LaY (n+1) _ _ _ _=_
   rw [qLaY,dF (show ¬ (Pq.length:Int) < (Pq.length:Int) by omega)]
   rfl
 unfold v73 tv73 qT
 rw [h0]
 cases upto 1000000000000 Pq with
 | false=>rw [Bool.and_false];rfl
 | true=>
  simp only [cond_true,jH,jA,qf,cond_false,Bool.and_true]
  congr 1
  rw [gZ]
  apply decide_eq_decide.2
  omega
theorem l72 (l:List Int) (links:Int) (hl:Len l):∀ (k n i:Nat) (last:Int),i+k=l.length→k < n→(i=0→last=-1)→(0 < i→last=l.getD (i - 1) 0∧0≤last)→
  LaQ n l links (i:Int)=some (cond (q0 links last (l.drop i)) (.inr ()) (.inl false)):=by
 intro k
 induction k with
 | zero=>
  intro n i last h1 h2 h3 h4
  cases n with
  | zero=>omega
  | succ n=>
   rw [qLaQ,dF (show ¬ ((i:Int) < (l.length:Int)) by omega),List.drop_of_length_le (show l.length≤i by omega)]
   rfl
 | succ k ih=>
  intro n i last h1 h2 h3 h4
  cases n with
  | zero=>omega
  | succ n=>
   have hi:i < l.length:=by omega
   have hl':l.length≤9223372036854775807:=hl
   rw [qLaQ,dT (show (i:Int) < (l.length:Int) by omega),dT (show (0:Int)≤(i:Int) by omega),up1 (by omega)]
   simp only [cond_true,tN]
   rw [jV hi 0,q0]
   have step:0≤l.getD i 0→LaQ n l links ((i+1:Nat):Int)=some (cond (q0 links (l.getD i 0) (l.drop (i+1))) (.inr ()) (.inl false)):=fun h0=>ih n (i+1) _ (by omega) (by omega) (by omega) fun _=>⟨by simp,h0⟩
   by_cases c1:l.getD i 0 < 0
   ·rw [dT c1,dF (show ¬ (last < l.getD i 0∧l.getD i 0 < links) by
     rintro ⟨h5,_⟩
     by_cases hz:i=0
     ·rw [h3 hz] at h5;omega
     ·have:=h4 (by omega);omega)]
    rfl
   rw [dF c1]
   by_cases c2:l.getD i 0≥links
   ·rw [dT c2,dF (show ¬ (last < l.getD i 0∧l.getD i 0 < links) by omega)]
    rfl
   rw [dF c2]
   simp only [cond_false]
   by_cases hz:i=0
   ·subst hz
    rw [dF (show ¬ ((0:Nat):Int) > 0 by omega),dT (show last < l.getD 0 0∧l.getD 0 0 < links by rw [h3 rfl];omega)]
    simp only [cond_true,cond_false]
    exact step (by omega)
   ·obtain ⟨h5,h6⟩:=h4 (by omega)
    rw [dT (show (i:Int) > 0 by omega),dn1 (by omega) (by omega),dT (show (0:Int)≤((i - 1:Nat):Int) by omega),dT (show ((i - 1:Nat):Int) < (l.length:Int) by omega)]
    simp only [cond_true,tN]
    by_cases c3:l.getD i 0≤l.getD (i - 1) 0
    ·rw [dT c3,dF (show ¬ (last < l.getD i 0∧l.getD i 0 < links) by omega)];rfl
    ·rw [dF c3,dT (show last < l.getD i 0∧l.getD i 0 < links by omega)]
     simp only [cond_true,cond_false]
     exact step (by omega)
theorem v72_eq (l:List Int) (links:Int) (hl:Len l):v72 l links=some (qY l links):=by
 unfold v72 tv72 qY
 have h:=l72 l links hl l.length FU 0 (-1) (by omega) (by have:l.length≤9223372036854775807:=hl;unfold FU;omega) (fun _=>rfl) (fun h=>by omega)
 simp only [Int.natCast_zero,List.drop_zero] at h
 rw [h]
 cases q0 links (-1) l with
 | false=>rfl
 | true=>
  simp only [cond_true,jH,jA,qf,cond_false,gz]
  congr 1
  apply decide_eq_decide.2
  constructor<;>intro h<;>omega
theorem l54_0 (Cq:List Int) (Fw:Fl) (hl:Cq.length≤20):LaP FU 0 Cq Fw=some (cond (jN Cq) (.inr ()) (.inl false)):=by
 unfold jN
 rw [← qR Cq 0 fun n=>decide (0≤n∧n≤1000)]
 refine qG (m:=Cq.length) (by omega) (fun n j=>LaP n j Cq Fw) _ (fun n i hi=>?_) fun n=>?_
 ·show LaP (n+1) _ _ _=_
  rw [qLaP,dT (show (i:Int) < (Cq.length:Int) by omega),dT (show (0:Int)≤(i:Int) by omega),up1 (by omega)]
  simp only [cond_true,tN]
  by_cases c1:Cq.getD i 0 < 0
  ·rw [dT c1,dF (show ¬ (0≤Cq.getD i 0∧Cq.getD i 0≤1000) by omega)];rfl
  by_cases c2:Cq.getD i 0 > 1000
  ·rw [dF c1,dT c2,dF (show ¬ (0≤Cq.getD i 0∧Cq.getD i 0≤1000) by omega)];rfl
  rw [dF c1,dF c2,dT (show 0≤Cq.getD i 0∧Cq.getD i 0≤1000 by omega)];rfl
 ·show LaP (n+1) _ _ _=_
  rw [qLaP,dF (show ¬ (Cq.length:Int) < (Cq.length:Int) by omega)]
  rfl
theorem l54_32 (x0:Int) (f:List (List Int)) (Cq:List Int) (Fw:Fl) (hl:f.length≤20) (hp:∀ k,(f.getD k []).length≤20):Lal FU x0 f 0 Cq Fw=some (cond (f.all fun l=>qY l Cq.length) (.inr ()) (.inl false)):=by
 rw [← qR f [] fun l=>qY l Cq.length]
 refine qG (m:=f.length) (by omega) (fun n j=>Lal n x0 f j Cq Fw) _ (fun n i hi=>?_) fun n=>?_
 ·show Lal (n+1) _ _ _ _ _=_
  have:=hp i
  rw [qLal,dT (show (i:Int) < (f.length:Int) by omega),dT (show (0:Int)≤(i:Int) by omega),up1 (by omega)]
  simp only [cond_true,tN]
  rw [v72_eq _ _ (show (f.getD i []).length≤9223372036854775807 by omega)]
  simp only [qf,qd,cond_true,qK]
 ·show Lal (n+1) _ _ _ _ _=_
  rw [qLal,dF (show ¬ (f.length:Int) < (f.length:Int) by omega)]
  rfl
theorem l54_16 (Cq:List Int) (Fw:Fl) (hl:Fw.length≤20) (hf:∀ i,(Fw.getD i []).length≤20) (hp:∀ i k,((Fw.getD i []).getD k []).length≤20):LaO FU 0 Cq Fw=some (cond (Fw.all (jd Cq.length)) (.inr ()) (.inl false)):=by
 rw [← qR Fw [] (jd Cq.length)]
 refine qG (m:=Fw.length) (by omega) (fun n j=>LaO n j Cq Fw) _ (fun n i hi=>?_) fun n=>?_
 ·show LaO (n+1) _ _ _=_
  rw [qLaO,dT (show (i:Int) < (Fw.length:Int) by omega),dT (show (0:Int)≤(i:Int) by omega),up1 (by omega)]
  simp only [cond_true,tN]
  unfold jd
  rw [l54_32 _ _ _ _ (hf i) (hp i)]
  by_cases c1:((Fw.getD i []).length:Int) < 1
  ·rw [dT c1,dF (show ¬ (1≤(Fw.getD i []).length∧(Fw.getD i []).length≤4) by omega)];rfl
  by_cases c2:((Fw.getD i []).length:Int) > 4
  ·rw [dF c1,dT c2,dF (show ¬ (1≤(Fw.getD i []).length∧(Fw.getD i []).length≤4) by omega)];rfl
  rw [dF c1,dF c2,dT (show 1≤(Fw.getD i []).length∧(Fw.getD i []).length≤4 by omega)]
  simp only [cond_true,cond_false]
  cases (Fw.getD i []).all fun l=>qY l Cq.length<;>rfl
 ·show LaO (n+1) _ _ _=_
  rw [qLaO,dF (show ¬ (Fw.length:Int) < (Fw.length:Int) by omega)]
  rfl
theorem Gp {Cq:List Int} {Fw:Fl} {Rq:List (List Int)} {Pq:List Int} (h:Few Cq Fw Rq Pq):v54 Cq Fw=some (qI Cq Fw):=by
 unfold v54 tv54 qI
 rw [l54_0 Cq Fw h.hc,l54_16 Cq Fw h.hf h.flow h.path]
 by_cases c1:(Cq.length:Int) < 1
 ·rw [dT c1,dF (show ¬ (1≤Cq.length∧Cq.length≤8) by omega)];rfl
 by_cases c2:(Cq.length:Int) > 8
 ·rw [dF c1,dT c2,dF (show ¬ (1≤Cq.length∧Cq.length≤8) by omega)];rfl
 by_cases c3:(Fw.length:Int) < 1
 ·rw [dF c1,dF c2,dT c3,dF (show ¬ (1≤Fw.length∧Fw.length≤8) by omega)];simp
 by_cases c4:(Fw.length:Int) > 8
 ·rw [dF c1,dF c2,dF c3,dT c4,dF (show ¬ (1≤Fw.length∧Fw.length≤8) by omega)];simp
 rw [dF c1,dF c2,dF c3,dF c4,dT (show 1≤Cq.length∧Cq.length≤8 by omega),dT (show 1≤Fw.length∧Fw.length≤8 by omega)]
 simp only [cond_false,Bool.true_and]
 cases jN Cq with
 | false=>rfl
 | true=>cases Fw.all (jd Cq.length)<;>rfl
section
variable {Cq : List Int} {Fw : Fl} {Rq : List (List Int)} {Pq : List Int} (h : Ok Cq Fw Rq Pq)
include h
theorem v80_eq {i t:Nat} (hi:i < Fw.length) (ht:t < (Fw.getD i []).length):v80 (pth Fw i t) Pq=some (qF (pth Fw i t) Pq):=by
 have hl:=(h.hop i t hi ht).2
 have h0:LaL FU (pth Fw i t) Pq 0 0=some (qF (pth Fw i t) Pq):=by
  refine qm (m:=(pth Fw i t).length) (by omega) (fun n j (s:Int)=>LaL n (pth Fw i t) Pq s j)
   (fun j=>qj j fun x=>Pq.getD (Int.toNat ((pth Fw i t).getD x 0)) 0) (qF (pth Fw i t) Pq) (fun n j hj=>?_) fun n=>?_
  ·show LaL (n+1) _ _ _ _=LaL n _ _ _ _
   have hk:=h.link i t j hi ht hj
   have hpl:=h.pl
   have hb:=gg h (i:=i) (t:=t) (j:=j+1) (by omega)
   have hs:qj (j+1) (fun x=>Pq.getD (Int.toNat ((pth Fw i t).getD x 0)) 0)=qj j (fun x=>Pq.getD (Int.toNat ((pth Fw i t).getD x 0)) 0)+Pq.getD (Int.toNat ((pth Fw i t).getD j 0)) 0:=rfl
   rw [qLaL,dT (show (j:Int) < ((pth Fw i t).length:Int) by omega),dT (show (0:Int)≤(j:Int) by omega),up1 (by omega)]
   simp only [cond_true,tN]
   rw [dT hk.1,dT (show (pth Fw i t).getD j 0 < (Pq.length:Int) by omega),← hs,qg (by omega) (by omega)]
   rfl
  ·show LaL (n+1) _ _ _ _=_
   rw [qLaL,dF (show ¬ ((pth Fw i t).length:Int) < ((pth Fw i t).length:Int) by omega)]
   rfl
 unfold v80
 rw [h0];rfl
theorem l74_16 {i:Nat} (hi:i < Fw.length) (hx:1≤qx (Rq.getD i [])) :
  Lav FU Rq Pq (i:Int) (Int.tdiv (1000000000000+qx (Rq.getD i []) - 1) (qx (Rq.getD i []))) 0 Cq Fw=some (cond ((List.range (Fw.getD i []).length).all fun t=>decide (1000000000000≤qF (pth Fw i t) Pq*qx (Rq.getD i []))) (.inr ()) (.inl false)):=by
 have h4:=(h.sub i hi).2
 refine qG (m:=(Fw.getD i []).length) (by omega) (fun n j=>Lav n Rq Pq (i:Int) (Int.tdiv (1000000000000+qx (Rq.getD i []) - 1) (qx (Rq.getD i []))) j Cq Fw) _ (fun n j hj=>?_) fun n=>?_
 ·show Lav (n+1) _ _ _ _ _ _ _=_
  have hp:=gu h (i:=i) (t:=j)
  have hc:=go (p:=qx (Rq.getD i [])) (x:=qF (pth Fw i j) Pq) (c:=1000000000000) (by omega) hp.1 (by omega)
  rw [Int.mul_comm] at hc
  rw [qLav,tN,tN,dT (show (0:Int)≤(i:Int) by omega),dT (show (i:Int) < (Fw.length:Int) by omega),dT (show (j:Int) < ((Fw.getD i []).length:Int) by omega),dT (show (0:Int)≤(j:Int) by omega),up1 (by omega),v80_eq h hi hj,qf,qd]
  simp only [cond_true]
  generalize hP:qF (pth Fw i j) Pq=p at*
  generalize hX:qx (Rq.getD i [])=y at*
  by_cases c:p*y < 1000000000000
  ·rw [dT (hc.2 c),dF (show ¬ 1000000000000≤p*y by omega)];rfl
  ·rw [dF (show ¬ _ from fun e=>c (hc.1 e)),dT (show 1000000000000≤p*y by omega)];rfl
 ·show Lav (n+1) _ _ _ _ _ _ _=_
  rw [qLav,dT (show (0:Int)≤(i:Int) by omega),dT (show (i:Int) < (Fw.length:Int) by omega)]
  simp only [cond_true,tN]
  rw [dF (show ¬ ((Fw.getD i []).length:Int) < ((Fw.getD i []).length:Int) by omega)]
  rfl
theorem v74_eq:v74 Cq Fw Rq Pq=some (jm Cq Fw Rq Pq):=by
 have hf:=h.few.hf
 have hr:=h.rl
 have h0:LaN FU Rq Pq 0 Cq Fw=some (cond (jl Fw Rq Pq) (.inr ()) (.inl false)):=by
  unfold jl
  refine qG (m:=Fw.length) (by omega) (fun n j=>LaN n Rq Pq j Cq Fw) _ (fun n i hi=>?_) fun n=>?_
  ·show LaN (n+1) _ _ _ _ _=_
   have hx:=Ga h i
   have hl:=h.sub i hi
   have e1:=v79_eq h i
   have e16:=l74_16 h hi
   rw [qLaN,tN,dT (show (i:Int) < (Fw.length:Int) by omega),dT (show (0:Int)≤(i:Int) by omega),dT (show (i:Int) < (Rq.length:Int) by omega),up1 (by omega)]
   generalize v79 (Rq.getD i [])=o1 at*
   subst e1
   rw [qf,qd]
   simp only [cond_true]
   by_cases c:qx (Rq.getD i []) < 1
   ·rw [dT c]
    have hz:qx (Rq.getD i [])=0:=by omega
    have:((List.range (Fw.getD i []).length).all fun t=>decide (1000000000000≤qF (pth Fw i t) Pq*qx (Rq.getD i [])))=false:=by
     rw [Bool.eq_false_iff]
     intro ha
     have:=List.all_eq_true.1 ha 0 (List.mem_range.2 (by omega))
     rw [hz,Int.mul_zero] at this
     simp at this
    rw [this];rfl
   ·have w1:IntKind.wrap IntKind.i64 (1000000000000+qx (Rq.getD i []))=1000000000000+qx (Rq.getD i []):=qg (by omega) (by omega)
    have w2:IntKind.wrap IntKind.i64 (1000000000000+qx (Rq.getD i []) - 1)=1000000000000+qx (Rq.getD i []) - 1:=qg (by omega) (by omega)
    have hc2:=gP (p:=qx (Rq.getD i [])) (c:=1000000000000) (by omega) (by omega)
    have w3:IntKind.wrap IntKind.i64 (Int.tdiv (1000000000000+qx (Rq.getD i []) - 1) (qx (Rq.getD i [])))=Int.tdiv (1000000000000+qx (Rq.getD i []) - 1) (qx (Rq.getD i [])):=qg (by omega) (by omega)
    rw [dF c,dT (show qx (Rq.getD i [])≠0 by omega)]
    simp only [cond_true,cond_false,w1,w2,w3]
    rw [e16 (by omega)]
    cases (List.range (Fw.getD i []).length).all fun t=>decide (1000000000000≤qF (pth Fw i t) Pq*qx (Rq.getD i []))<;>rfl
  ·show LaN (n+1) _ _ _ _ _=_
   rw [qLaN,dF (show ¬ (Fw.length:Int) < (Fw.length:Int) by omega)]
   rfl
 unfold v74 tv74 jm
 rw [v18_eq h,h0]
 cases qP Cq Fw Rq with
 | false=>rfl
 | true=>cases jl Fw Rq Pq<;>rfl
theorem v75_eq:v75 Cq Fw Pq=some (qN Cq Pq):=by
 have hp:=h.few.hp
 have hpl:=h.pl
 have h0:LaK FU Pq 0 0 Cq Fw=some (qN Cq Pq):=by
  refine qm (m:=Pq.length) (by omega) (fun n j (s:Int)=>LaK n Pq s j Cq Fw) (fun j=>qj j fun k=>Pq.getD k 0*Cq.getD k 0) (qN Cq Pq) (fun n k hk=>?_) fun n=>?_
  ·show LaK (n+1) _ _ _ _ _=LaK n _ _ _ _ _
   have hb:=jy h (j:=k+1) (by omega)
   have hb0:=jy h (j:=k) (by omega)
   have hs:qj (k+1) (fun k=>Pq.getD k 0*Cq.getD k 0)=qj k (fun k=>Pq.getD k 0*Cq.getD k 0)+Pq.getD k 0*Cq.getD k 0:=rfl
   have hm0:0≤Pq.getD k 0*Cq.getD k 0:=Int.mul_nonneg (h.price k).1 (h.cap k).1
   rw [qLaK,dT (show (k:Int) < (Pq.length:Int) by omega),dT (show (0:Int)≤(k:Int) by omega),dT (show (k:Int) < (Cq.length:Int) by omega),up1 (by omega)]
   simp only [cond_true,tN]
   rw [qg (x:=Pq.getD k 0*Cq.getD k 0) (by omega) (by omega),← hs,qg (by omega) (by omega)]
  ·show LaK (n+1) _ _ _ _ _=_
   rw [qLaK,dF (show ¬ (Pq.length:Int) < (Pq.length:Int) by omega)]
   rfl
 unfold v75
 rw [h0];rfl
end
theorem v59_eq {Cq:List Int} {Fw:Fl} {Rq:List (List Int)} {Pq:List Int} (hf:Few Cq Fw Rq Pq):v59 Cq Fw Rq Pq=some (qX Cq Fw Rq Pq):=by
 unfold v59 tv59 qX
 rw [Gp hf,v16_eq hf.hf hf.flow,v73_eq hf]
 simp only [qf,qd,cond_true,qK]
 cases h1:qI Cq Fw with
 | false=>rfl
 | true=>
  cases h2:q9 Fw Rq with
  | false=>rfl
  | true=>
   cases h3:qT Cq Pq with
   | false=>rfl
   | true=>
    have h:=ok_of hf h1 h2 h3
    have hc:=jy h (j:=Pq.length) hf.hp
    have hfl:=hf.hf
    have hc':0≤qN Cq Pq∧qN Cq Pq≤20*(1000000000000*1000):=hc
    rw [v74_eq h,v75_eq h]
    simp only [qf,qd,cond_true,Bool.and_self]
    have w1:IntKind.wrap IntKind.i64 (1000000*(Fw.length:Int))=1000000*(Fw.length:Int):=qg (by omega) (by omega)
    have w2:IntKind.wrap IntKind.i64 (qN Cq Pq - 1000000*(Fw.length:Int))=qN Cq Pq - 1000000*(Fw.length:Int):=qg (by omega) (by omega)
    simp only [w1,w2]
    cases jm Cq Fw Rq Pq with
    | false=>rfl
    | true=>
     simp only [cond_true]
     generalize max 0 (qN Cq Pq - 1000000*(Fw.length:Int))=g
     by_cases c:g≤1000000000000
     ·rw [dT c,dF (show ¬ g > 1000000000000 by omega)];rfl
     ·rw [dF c,dT (show g > 1000000000000 by omega)];rfl
theorem ge (n:Nat) (f:Nat→Int):tab (n+1) f=tab n f++[f n]:=by unfold tab;rw [List.range_succ,List.map_append];rfl
theorem gY (l:List Int) (k:Int):(l.any fun x=>x==k)=decide (k∈l):=by
 induction l with
 | nil=>simp
 | cons a l ih=>
  rw [List.any_cons,ih]
  by_cases c:a=k
  ·simp [c]
  ·have:¬ k=a:=fun e=>c e.symm
   simp [c,this]
theorem v30_eq {Cq:List Int} {Fw:List (List Int)} {lim:List Int} (h:jX Cq Fw lim=true):v30 Cq Fw lim=some (qI Cq (qr Fw)&&(decide (lim.length=Fw.length)&&!(lim.any fun x=>x != 0))):=by
 obtain ⟨h1,h2,h3,h4⟩:=jP h
 have h0:LaS FU 0 Cq Fw lim=some (cond (lim.any fun x=>x != 0) (.inl false) (.inr ())):=by
  have:=qG (m:=lim.length) (by omega) (fun n j=>LaS n j Cq Fw lim) (fun j=>lim.getD j 0==0) (fun n i hi=>by
   show LaS (n+1) _ _ _ _=_
   rw [qLaS,dT (show (i:Int) < (lim.length:Int) by omega),dT (show (0:Int)≤(i:Int) by omega),up1 (by omega)]
   simp only [cond_true,tN]
   exact qK _ _ _) fun n=>by
   show LaS (n+1) _ _ _ _=_
   rw [qLaS,dF (show ¬ (lim.length:Int) < (lim.length:Int) by omega)]
   rfl
  rw [qR lim 0 fun x=>x==0] at this
  have e:(lim.all fun x=>x==0)=!(lim.any fun x=>x != 0):=by
   clear h h1 h2 h3 h4 this
   induction lim with
   | nil=>rfl
   | cons a l ih=>rw [List.all_cons,List.any_cons,ih];cases hx:(a==0)<;>simp [bne,hx]
  rw [e] at this
  refine this.trans ?_
  cases (lim.any fun x=>x != 0)<;>rfl
 unfold v30 tv30
 rw [Gn Cq lim h2]
 simp only [qf,qd,cond_true]
 rw [Gp (gU (Rq:=[]) (Pq:=[]) h1 h2 h4 (by simp) (by simp) (by simp)),h0]
 simp only [qf,qd,cond_true,qK]
 cases qI Cq (qr Fw) with
 | false=>rfl
 | true=>
  rw [js]
  simp only [qK,cond_true,Bool.true_and]
  cases decide (lim.length=Fw.length) with
  | false=>rfl
  | true=>cases (lim.any fun x=>x != 0)<;>rfl
section
variable {Fw : List (List Int)} (Cq lim : List Int) (h2 : Fw.length ≤ 20) (h4 : ∀ f ∈ Fw, f.length ≤ 20)
include h2 h4
theorem Gs (t:Nat):v31 Cq Fw lim (t:Int)=some (qE Fw t):=by
 have h0:=gE (m:=Fw.length) (by omega) (fun n j=>Lbb n (t:Int) j Cq Fw lim) (fun j=>decide ((t:Int)∈Fw.getD j [])) (fun n i hi=>by
  show Lbb (n+1) _ _ _ _ _=_
  rw [qLbb,dT (show (i:Int) < (Fw.length:Int) by omega),dT (show (0:Int)≤(i:Int) by omega),up1 (by omega)]
  simp only [cond_true,tN]
  rw [gL _ (h4 _ (jv Fw hi)),gY]
  rfl) fun n=>by
  show Lbb (n+1) _ _ _ _ _=_
  rw [qLbb,dF (show ¬ (Fw.length:Int) < (Fw.length:Int) by omega)]
  rfl
 rw [jE Fw [] fun f=>decide ((t:Int)∈f)] at h0
 have h0:Lbb FU (t:Int) 0 Cq Fw lim=_:=h0
 unfold v31 tv31 qE
 rw [h0]
 cases Fw.any fun f=>decide ((t:Int)∈f)<;>rfl
theorem v32_eq (h1:Cq.length≤20):v32 Cq Fw lim=some (qh Cq.length Fw):=by
 have h0:Lax FU 0 Cq Fw lim []=some (qh Cq.length Fw):=by
  refine qm (m:=Cq.length) (by omega) (fun n j (s:List Int)=>Lax n j Cq Fw lim s) (fun j=>tab j fun t=>cond (qE Fw t) 1000 0) _ (fun n j hj=>?_) (fun n=>?_)
  ·show Lax (n+1) _ _ _ _ _=Lax n _ _ _ _ _
   rw [qLax,dT (show (j:Int) < (Cq.length:Int) by omega),Gs Cq lim h2 h4 j,up1 (by omega),ge]
   simp only [cond_true,qf,qd,qp]
   cases qE Fw j with
   | true=>exact qw (show j+1≤2147483648 by omega) _ _
   | false=>exact qw (show j+1≤2147483648 by omega) _ _
  ·show Lax (n+1) _ _ _ _ _=_
   rw [qLax,dF (show ¬ (Cq.length:Int) < (Cq.length:Int) by omega)]
   rfl
 unfold v32
 rw [h0];rfl
end
end Go.Proofs.Ytgmebdomopdgmaa
