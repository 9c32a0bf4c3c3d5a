/- FairBound: it returns true at every input; no conditions. -/
import Derived.Test.YtgmebdomopdgmaaG3
import Derived.Test.YtgmebdomopdgmaaRows
import Derived.ProofKit
set_option linter.all false
namespace Go.TM
open Go Go.AM
@[simp] theorem ok_some {α:Type} (x:α):ok (some x)=true:=rfl
@[simp] theorem val_some {α:Type} [Inhabited α] (x:α):val (some x)=x:=rfl
@[simp] theorem isL_inr {α β:Type} (x:β):isL (some (.inr x:α ⊕ β))=false:=rfl
@[simp] theorem getR_inr {α β:Type} (x:β):zL (some (.inr x:α ⊕ β))=some x:=rfl
theorem cond_nb {α:Type} (b:Bool) (x y:α):cond (!b) x y=cond b y x:=by cases b<;>rfl
theorem wrap_id {x:Int} (h1:-9223372036854775808≤x) (h2:x≤9223372036854775807):IntKind.wrap IntKind.i64 x=x:=by
 simp [IntKind.wrap,IntKind.bits,IntKind.signed]
 omega
theorem up1 {i:Nat} (h:i < 9223372036854775807):IntKind.wrap IntKind.i64 ((i:Int)+1)=((i+1:Nat):Int):=by rw [wrap_id (by omega) (by omega)];omega
theorem getD_drop {α:Type} {l:List α} {i:Nat} (h:i < l.length) (d:α):l.drop i=l.getD i d::l.drop (i+1):=by
 rw [List.drop_eq_getElem_cons h]
 congr 1
 simp [List.getD,List.getElem?_eq_getElem h]
theorem getD_in {α:Type} {l:List α} {i:Nat} (h:i < l.length) (d:α):l.getD i d∈l:=by
 have:l.getD i d=l[i]:=by simp [List.getD,List.getElem?_eq_getElem h]
 rw [this];exact List.getElem_mem h
abbrev Len {α:Type} (l:List α):Prop:=l.length≤9223372036854775807
theorem and_cond (p q:Prop) [Decidable p] [Decidable q]:cond (decide p) (some (decide q)) (some false)=some (decide (p∧q)):=by
 by_cases h:p<;>simp [h]
theorem bne_dec (x y:Int):(x != y)=!decide (x=y):=rfl
theorem beq_dec (x y:Int):(x==y)=decide (x=y):=rfl
theorem all_loop {m:Nat} (hm:m≤9223372036854775807) (F:Nat→Int→Option (Bool ⊕ Unit)) (g:Nat→Bool)
  (hs:∀ n (i:Nat),i < m→F (n+1) (i:Int)=cond (g i) (F n ((i+1:Nat):Int)) (some (.inl false))) (he:∀ n,F (n+1) (m:Int)=some (.inr ())) :
  F FU 0=some (cond ((List.range m).all g) (.inr ()) (.inl false)):=by
 have key:∀ (k n i:Nat),i+k=m→k < n→F n (i:Int)=some (cond ((List.range' i k).all g) (.inr ()) (.inl false)):=by
  intro k
  induction k with
  | zero=>
   intro n i h1 h2
   cases n with
   | zero=>omega
   | succ n=>
    have:i=m:=by omega
    subst this
    rw [he];rfl
  | succ k ih=>
   intro n i h1 h2
   cases n with
   | zero=>omega
   | succ n=>
    rw [hs n i (by omega),ih n (i+1) (by omega) (by omega),List.range'_succ,List.all_cons]
    cases g i<;>rfl
 have:=key m FU 0 (by omega) (by unfold FU;omega)
 rw [List.range_eq_range']
 exact this
theorem any_loop {m:Nat} (hm:m≤9223372036854775807) (F:Nat→Int→Option (Bool ⊕ Unit)) (g:Nat→Bool)
  (hs:∀ n (i:Nat),i < m→F (n+1) (i:Int)=cond (g i) (some (.inl true)) (F n ((i+1:Nat):Int))) (he:∀ n,F (n+1) (m:Int)=some (.inr ())) :
  F FU 0=some (cond ((List.range m).any g) (.inl true) (.inr ())):=by
 have key:∀ (k n i:Nat),i+k=m→k < n→F n (i:Int)=some (cond ((List.range' i k).any g) (.inl true) (.inr ())):=by
  intro k
  induction k with
  | zero=>
   intro n i h1 h2
   cases n with
   | zero=>omega
   | succ n=>
    have:i=m:=by omega
    subst this
    rw [he];rfl
  | succ k ih=>
   intro n i h1 h2
   cases n with
   | zero=>omega
   | succ n=>
    rw [hs n i (by omega),ih n (i+1) (by omega) (by omega),List.range'_succ,List.any_cons]
    cases g i<;>rfl
 have:=key m FU 0 (by omega) (by unfold FU;omega)
 rw [List.range_eq_range']
 exact this
theorem find_loop {m:Nat} (hm:m≤9223372036854775807) (F:Nat→Int→Option (Int ⊕ Unit)) (g:Nat→Bool)
  (hs:∀ n (i:Nat),i < m→F (n+1) (i:Int)=cond (g i) (some (.inl (i:Int))) (F n ((i+1:Nat):Int))) (he:∀ n,F (n+1) (m:Int)=some (.inr ())) :
  (∃ j:Nat,j < m∧F FU 0=some (.inl (j:Int))∧g j=true∧∀ i,i < j→g i=false)∨(F FU 0=some (.inr ())∧∀ i,i < m→g i=false):=by
 have key:∀ (k n i:Nat),i+k=m→k < n→(∃ j:Nat,i≤j∧j < m∧F n (i:Int)=some (.inl (j:Int))∧g j=true∧∀ x,i≤x→x < j→g x=false)∨(F n (i:Int)=some (.inr ())∧∀ x,i≤x→x < m→g x=false):=by
  intro k
  induction k with
  | zero=>
   intro n i h1 h2
   cases n with
   | zero=>omega
   | succ n=>
    have:i=m:=by omega
    subst this
    exact .inr ⟨he n,fun x h1 h2=>by omega⟩
  | succ k ih=>
   intro n i h1 h2
   cases n with
   | zero=>omega
   | succ n=>
    rw [hs n i (by omega)]
    cases hg:g i with
    | true=>exact .inl ⟨i,Nat.le_refl _,by omega,rfl,hg,fun x h1 h2=>by omega⟩
    | false=>
     rcases ih n (i+1) (by omega) (by omega) with ⟨j,h3,h4,h5,h6,h7⟩ | ⟨h3,h4⟩
     ·refine .inl ⟨j,by omega,h4,h5,h6,fun x hx1 hx2=>?_⟩
      by_cases e:x=i
      ·rw [e];exact hg
      ·exact h7 x (by omega) hx2
     ·refine .inr ⟨h3,fun x hx1 hx2=>?_⟩
      by_cases e:x=i
      ·rw [e];exact hg
      ·exact h4 x (by omega) hx2
 rcases key m FU 0 (by omega) (by unfold FU;omega) with ⟨j,h3,h4,h5,h6,h7⟩ | ⟨h3,h4⟩
 ·exact .inl ⟨j,h4,h5,h6,fun x hx=>h7 x (by omega) hx⟩
 ·exact .inr ⟨h3,fun x hx=>h4 x (by omega) hx⟩
theorem all_range {α:Type} (l:List α) (d:α) (p:α→Bool):(List.range l.length).all (fun i=>p (l.getD i d))=l.all p:=by
 apply Bool.eq_iff_iff.2
 simp only [List.all_eq_true,List.mem_range]
 constructor
 ·intro h x hx
  obtain ⟨i,hi,rfl⟩:=List.getElem_of_mem hx
  have:=h i hi
  simpa [List.getD,List.getElem?_eq_getElem hi] using this
 ·intro h i hi
  exact h _ (getD_in hi d)
theorem any_range {α:Type} (l:List α) (d:α) (p:α→Bool):(List.range l.length).any (fun i=>p (l.getD i d))=l.any p:=by
 apply Bool.eq_iff_iff.2
 simp only [List.any_eq_true,List.mem_range]
 constructor
 ·rintro ⟨i,hi,h⟩;exact ⟨_,getD_in hi d,h⟩
 ·rintro ⟨x,hx,h⟩
  obtain ⟨i,hi,rfl⟩:=List.getElem_of_mem hx
  exact ⟨i,hi,by simpa [List.getD,List.getElem?_eq_getElem hi] using h⟩
end Go.TM
namespace Go.Proofs.Ytgmebdomopdgmaa
open Go Go.AM Go.TM Go.Proofs
abbrev Fl:=List (List (List Int))
def fewF (flows:Fl):Bool:=flows.all fun f=>cond (decide (f.length≤20)) (f.all fun l=>decide (l.length≤20)) false
def fewS (caps:List Int) (flows:Fl) (rates:List (List Int)) (prices:List Int):Bool:=
 decide (caps.length≤20)&&(decide (flows.length≤20)&&(decide (rates.length≤20)&&(decide (prices.length≤20)&&(fewF flows&&rates.all fun l=>decide (l.length≤20)))))
theorem dgt (a:Nat):decide ((a:Int) > 20)=!decide (a≤20):=by
 by_cases h:a≤20
 ·rw [decide_eq_true h,decide_eq_false (by omega)];rfl
 ·rw [decide_eq_false h,decide_eq_true (by omega)];rfl
structure Few (caps:List Int) (flows:Fl) (rates:List (List Int)) (prices:List Int):Prop where
 hc:caps.length≤20
 hf:flows.length≤20
 hr:rates.length≤20
 hp:prices.length≤20
 flow:∀ i,(flows.getD i []).length≤20
 path:∀ i k,((flows.getD i []).getD k []).length≤20
 rate:∀ i,(rates.getD i []).length≤20
def incr (links:Int):Int→List Int→Bool
 | _,[]=>true
 | last,k::r=>cond (decide (last < k∧k < links)) (incr links k r) false
def pathS (l:List Int) (links:Int):Bool:=cond (incr links (-1) l) (decide (1≤l.length∧l.length≤6)) false
def capsS (caps:List Int):Bool:=caps.all fun n=>decide (0≤n∧n≤1000)
def flowS (links:Int) (f:List (List Int)):Bool:=cond (decide (1≤f.length∧f.length≤4)) (f.all fun l=>pathS l links) false
def validS (caps:List Int) (flows:Fl):Bool:=
 decide (1≤caps.length∧caps.length≤8)&&(decide (1≤flows.length∧flows.length≤8)&&(capsS caps&&flows.all (flowS caps.length)))
end Go.Proofs.Ytgmebdomopdgmaa
namespace Go.TM
open Go Go.AM
theorem at_loop {m:Nat} (hm:m≤9223372036854775807) {σ ρ:Type} (F:Nat→Int→σ→Option ρ) (g:Nat→σ) (r:ρ)
  (hs:∀ n (i:Nat),i < m→F (n+1) (i:Int) (g i)=F n ((i+1:Nat):Int) (g (i+1))) (he:∀ n,F (n+1) (m:Int) (g m)=some r):F FU 0 (g 0)=some r:=by
 have key:∀ (k n i:Nat),i+k=m→k < n→F n (i:Int) (g i)=some r:=by
  intro k
  induction k with
  | zero=>
   intro n i h1 h2
   cases n with
   | zero=>omega
   | succ n=>rw [show i=m by omega];exact he n
  | succ k ih=>
   intro n i h1 h2
   cases n with
   | zero=>omega
   | succ n=>rw [hs n i (by omega)];exact ih n (i+1) (by omega) (by omega)
 exact key m FU 0 (by omega) (by unfold FU;omega)
theorem idx_of {m:Nat} (hm:m≤9223372036854775807) (F:Nat→Int→Option (Int ⊕ Unit)) (g:Nat→Bool)
  (hs:∀ n (i:Nat),i < m→F (n+1) (i:Int)=cond (g i) (some (.inl (i:Int))) (F n ((i+1:Nat):Int))) (he:∀ n,F (n+1) (m:Int)=some (.inr ())) :
  ∃ j:Int,cond (isL (F FU 0)) (some (zN (F FU 0))) (cond (ok (zL (F FU 0))) (some (-1:Int)) none)=some j∧decide (j≥0)=(List.range m).any g:=by
 rcases find_loop hm F g hs he with ⟨j,h1,h2,h3,_⟩ | ⟨h2,h3⟩
 ·refine ⟨(j:Int),by rw [h2];rfl,?_⟩
  rw [decide_eq_true (show (j:Int)≥0 by omega),eq_comm,List.any_eq_true]
  exact ⟨j,List.mem_range.2 h1,h3⟩
 ·refine ⟨-1,by rw [h2];rfl,?_⟩
  rw [decide_eq_false (show ¬ (-1:Int)≥0 by omega),eq_comm,List.any_eq_false]
  intro x hx
  rw [h3 x (List.mem_range.1 hx)];simp
def sumN:Nat→(Nat→Int)→Int
 | 0,_=>0
 | n+1,f=>sumN n f+f n
theorem sumN_le {n:Nat} {f g:Nat→Int} (h:∀ i,i < n→f i≤g i):sumN n f≤sumN n g:=by
 induction n with
 | zero=>exact Int.le_refl _
 | succ n ih=>exact Int.add_le_add (ih fun i hi=>h i (by omega)) (h n (by omega))
theorem sumN_congr {n:Nat} {f g:Nat→Int} (h:∀ i,i < n→f i=g i):sumN n f=sumN n g:=by
 induction n with
 | zero=>rfl
 | succ n ih=>simp only [sumN];rw [ih fun i hi=>h i (by omega),h n (by omega)]
theorem sumN_const (n:Nat) (c:Int):sumN n (fun _=>c)=n*c:=by
 induction n with
 | zero=>simp [sumN]
 | succ n ih=>simp only [sumN];rw [ih];push_cast;rw [Int.add_mul];omega
theorem sumN_zero (n:Nat):sumN n (fun _=>0)=0:=by rw [sumN_const];simp
theorem sumN_nonneg {n:Nat} {f:Nat→Int} (h:∀ i,i < n→0≤f i):0≤sumN n f:=by
 have:=sumN_le (n:=n) (f:=fun _=>0) (g:=f) h
 rw [sumN_zero] at this;exact this
theorem sumN_bd {n m:Nat} {f:Nat→Int} {c:Int} (hn:n≤m) (h:∀ i,i < n→0≤f i∧f i≤c) (hc:0≤c):0≤sumN n f∧sumN n f≤m*c:=by
 refine ⟨sumN_nonneg fun i hi=>(h i hi).1,?_⟩
 have:=sumN_le (n:=n) (f:=f) (g:=fun _=>c) fun i hi=>(h i hi).2
 rw [sumN_const] at this
 exact Int.le_trans this (Int.mul_le_mul_of_nonneg_right (by omega) hc)
theorem sumN_add (n:Nat) (f g:Nat→Int):sumN n (fun i=>f i+g i)=sumN n f+sumN n g:=by
 induction n with
 | zero=>rfl
 | succ n ih=>simp only [sumN];rw [ih];omega
theorem sumN_mul (n:Nat) (f:Nat→Int) (c:Int):sumN n (fun i=>c*f i)=c*sumN n f:=by
 induction n with
 | zero=>simp [sumN]
 | succ n ih=>simp only [sumN];rw [ih,Int.mul_add]
theorem sumN_mul' (n:Nat) (f:Nat→Int) (c:Int):sumN n (fun i=>f i*c)=sumN n f*c:=by
 rw [Int.mul_comm,← sumN_mul];exact sumN_congr fun i _=>Int.mul_comm _ _
theorem sumN_swap (n m:Nat) (f:Nat→Nat→Int):sumN n (fun i=>sumN m fun j=>f i j)=sumN m (fun j=>sumN n fun i=>f i j):=by
 induction n with
 | zero=>exact (sumN_zero m).symm
 | succ n ih=>simp only [sumN];rw [ih,← sumN_add]
theorem ceil_lt {p x c:Int} (hp:0 < p) (hx:0≤x) (hc:0 < c):x < Int.tdiv (c+p - 1) p↔p*x < c:=by
 rw [Int.tdiv_eq_ediv_of_nonneg (by omega)]
 have h1:=Int.mul_ediv_add_emod (c+p - 1) p
 have h2:=Int.emod_nonneg (c+p - 1) (show p≠0 by omega)
 have h3:=Int.emod_lt_of_pos (c+p - 1) hp
 constructor
 ·intro h
  have h4:p*(x+1)≤p*((c+p - 1) / p):=Int.mul_le_mul_of_nonneg_left (by omega) (by omega)
  rw [Int.mul_add,Int.mul_one] at h4
  omega
 ·intro h
  apply Int.lt_of_not_ge
  intro h4
  have h5:p*((c+p - 1) / p)≤p*x:=Int.mul_le_mul_of_nonneg_left h4 (by omega)
  omega
theorem ceil_le {p c:Int} (hp:0 < p) (hc:0 < c):0≤Int.tdiv (c+p - 1) p∧Int.tdiv (c+p - 1) p≤c:=by
 refine ⟨?_,?_⟩
 ·rw [Int.tdiv_eq_ediv_of_nonneg (by omega)];exact Int.ediv_nonneg (by omega) (by omega)
 ·apply Int.le_of_not_gt
  intro h
  have:=(ceil_lt hp (by omega) hc).1 h
  have h2:1*c≤p*c:=Int.mul_le_mul_of_nonneg_right (by omega) (by omega)
  omega
end Go.TM
namespace Go.Proofs.Ytgmebdomopdgmaa
open Go Go.AM Go.TM Go.Proofs
theorem v39_eq (a b c:Int):v39 a b c=some (decide (b≤a∧a≤c)):=by
 unfold v39;rw [and_cond]
theorem not_any {α:Type} (l:List α) (d:α) (p:α→Bool):(!(List.range l.length).any fun i=>!p (l.getD i d))=l.all p:=by
 rw [any_range l d fun x=>!p x,← all_range l d p,all_range l d p]
 rw [List.all_eq_not_any_not]
theorem ints_all (l:List Int) (hl:Len l) (p:Int→Bool) (F:Nat→Int→Option (Int ⊕ Unit))
  (hs:∀ n (i:Nat),i < l.length→F (n+1) (i:Int)=cond (!p (l.getD i 0)) (some (.inl (i:Int))) (F n ((i+1:Nat):Int))) (he:∀ n,F (n+1) (l.length:Int)=some (.inr ())) :
  ∃ j:Int,cond (isL (F FU 0)) (some (zN (F FU 0))) (cond (ok (zL (F FU 0))) (some (-1:Int)) none)=some j∧(!decide (j≥0))=l.all p:=by
 obtain ⟨j,h1,h2⟩:=idx_of (m:=l.length) hl F (fun i=>!p (l.getD i 0)) hs he
 exact ⟨j,h1,by rw [h2,not_any l 0 p]⟩
theorem v41_eq (l:List Int) (hl:Len l):v41 l=some (capsS l):=by
 have hl':l.length≤9223372036854775807:=hl
 obtain ⟨j,h1,h2⟩:=ints_all l hl (fun n=>decide (0≤n∧n≤1000)) (fun n i=>LaC n l (l.length:Int) i) (fun n i hi=>by
  show LaC (n+1) _ _ _=_
  rw [qLaC,decide_eq_true (show (i:Int) < (l.length:Int) by omega),decide_eq_true (show (0:Int)≤(i:Int) by omega),up1 (by omega)]
  unfold v63 v42
  simp only [cond_true,Int.toNat_natCast,v39_eq,ok_some,val_some]) fun n=>by
  show LaC (n+1) _ _ _=_
  rw [qLaC,decide_eq_false (show ¬ (l.length:Int) < (l.length:Int) by omega)]
  rfl
 unfold v41 v23 v40 capsS
 rw [h1]
 simp only [ok_some,val_some,cond_true]
 exact congrArg some h2
def upto (m:Int) (l:List Int):Bool:=l.all fun n=>decide (0≤n∧n≤m)
theorem v41_1_eq (l:List Int) (hl:Len l):v41_1 l=some (upto 1000000000 l):=by
 have hl':l.length≤9223372036854775807:=hl
 obtain ⟨j,h1,h2⟩:=ints_all l hl (fun n=>decide (0≤n∧n≤1000000000)) (fun n i=>LaA n l (l.length:Int) i) (fun n i hi=>by
  show LaA (n+1) _ _ _=_
  rw [qLaA,decide_eq_true (show (i:Int) < (l.length:Int) by omega),decide_eq_true (show (0:Int)≤(i:Int) by omega),up1 (by omega)]
  unfold v63_1 v60
  simp only [cond_true,Int.toNat_natCast,v39_eq,ok_some,val_some]) fun n=>by
  show LaA (n+1) _ _ _=_
  rw [qLaA,decide_eq_false (show ¬ (l.length:Int) < (l.length:Int) by omega)]
  rfl
 unfold v41_1 v23_1 v40_1 upto
 rw [h1]
 simp only [ok_some,val_some,cond_true]
 exact congrArg some h2
theorem v41_2_eq (l:List Int) (hl:Len l):v41_2 l=some (upto 1000000000000 l):=by
 have hl':l.length≤9223372036854775807:=hl
 obtain ⟨j,h1,h2⟩:=ints_all l hl (fun n=>decide (0≤n∧n≤1000000000000)) (fun n i=>LaF n l (l.length:Int) i) (fun n i hi=>by
  show LaF (n+1) _ _ _=_
  rw [qLaF,decide_eq_true (show (i:Int) < (l.length:Int) by omega),decide_eq_true (show (0:Int)≤(i:Int) by omega),up1 (by omega)]
  unfold v63_2 v61
  simp only [cond_true,Int.toNat_natCast,v39_eq,ok_some,val_some]) fun n=>by
  show LaF (n+1) _ _ _=_
  rw [qLaF,decide_eq_false (show ¬ (l.length:Int) < (l.length:Int) by omega)]
  rfl
 unfold v41_2 v23_2 v40_2 upto
 rw [h1]
 simp only [ok_some,val_some,cond_true]
 exact congrArg some h2
theorem l38 (l:List Int) (links:Int) (hl:Len l):∀ (k n i:Nat) (last:Int),i+k=l.length→k < n→
  LaL n l links last l (l.length:Int) (i:Int)=some (cond (incr links last (l.drop i)) (.inr ()) (.inl false)):=by
 intro k
 induction k with
 | zero=>
  intro n i last h1 h2
  cases n with
  | zero=>omega
  | succ n=>
   rw [qLaL,decide_eq_false (show ¬ ((i:Int) < (l.length:Int)) by omega),List.drop_of_length_le (show l.length≤i by omega)]
   rfl
 | succ k ih=>
  intro n i last h1 h2
  cases n with
  | zero=>omega
  | succ n=>
   have hi:i < l.length:=by omega
   have hl':l.length≤9223372036854775807:=hl
   rw [qLaL,decide_eq_true (show (i:Int) < (l.length:Int) by omega),decide_eq_true (show (0:Int)≤(i:Int) by omega),up1 (by omega)]
   simp only [cond_true,Int.toNat_natCast]
   rw [getD_drop hi 0,incr,ih n (i+1) _ (by omega) (by omega)]
   by_cases c1:l.getD i 0≤last
   ·rw [decide_eq_true c1,decide_eq_false (show ¬ (last < l.getD i 0∧l.getD i 0 < links) by omega)];rfl
   rw [decide_eq_false c1]
   by_cases c2:l.getD i 0≥links
   ·rw [decide_eq_true c2,decide_eq_false (show ¬ (last < l.getD i 0∧l.getD i 0 < links) by omega)];rfl
   rw [decide_eq_false c2,decide_eq_true (show last < l.getD i 0∧l.getD i 0 < links by omega)]
   rfl
theorem v47_eq (l:List Int) (links:Int) (hl:Len l):v47 l links=some (pathS l links):=by
 unfold v47 pathS
 have h:=l38 l links hl l.length FU 0 (-1) (by omega) (by have:l.length≤9223372036854775807:=hl;unfold FU;omega)
 simp only [Int.natCast_zero,List.drop_zero] at h
 rw [h]
 cases incr links (-1) l with
 | false=>rfl
 | true=>
  simp only [cond_true,isL_inr,getR_inr,ok_some,val_some,cond_false,v39_eq]
  congr 1
  apply decide_eq_decide.2
  constructor<;>intro h<;>omega
theorem v45_eq (f:List (List Int)) (caps:List Int) (flows:Fl) (hl:f.length≤20) (hp:∀ k,(f.getD k []).length≤20):v45 f caps flows=some (f.all fun l=>pathS l caps.length):=by
 obtain ⟨j,h1,h2⟩:=idx_of (m:=f.length) (by omega) (fun n i=>Lay n f (f.length:Int) i caps flows) (fun i=>!pathS (f.getD i []) caps.length) (fun n i hi=>by
  have:=hp i
  show Lay (n+1) _ _ _ _ _=_
  rw [qLay,decide_eq_true (show (i:Int) < (f.length:Int) by omega),decide_eq_true (show (0:Int)≤(i:Int) by omega),up1 (by omega)]
  unfold v67 v46
  simp only [cond_true,Int.toNat_natCast]
  rw [v47_eq _ _ (show (f.getD i []).length≤9223372036854775807 by omega)]
  simp only [ok_some,val_some,cond_true]) fun n=>by
  show Lay (n+1) _ _ _ _ _=_
  rw [qLay,decide_eq_false (show ¬ (f.length:Int) < (f.length:Int) by omega)]
  rfl
 have h3:=not_any f [] fun l=>pathS l caps.length
 unfold v45 v66 v78
 rw [h1]
 simp only [ok_some,val_some,cond_true]
 exact congrArg some ((congrArg (!·) h2).trans h3)
theorem v43_eq (caps:List Int) (flows:Fl) (hl:flows.length≤20) (hf:∀ i,(flows.getD i []).length≤20) (hp:∀ i k,((flows.getD i []).getD k []).length≤20):v43 flows caps flows=some (flows.all (flowS caps.length)):=by
 obtain ⟨j,h1,h2⟩:=idx_of (m:=flows.length) (by omega) (fun n i=>LaE n flows (flows.length:Int) i caps flows) (fun i=>!flowS caps.length (flows.getD i [])) (fun n i hi=>by
  show LaE (n+1) _ _ _ _ _=_
  rw [qLaE,decide_eq_true (show (i:Int) < (flows.length:Int) by omega),decide_eq_true (show (0:Int)≤(i:Int) by omega),up1 (by omega)]
  have hv:v44 (flows.getD i []) caps flows=some (flowS caps.length (flows.getD i [])):=by
   unfold v44 flowS
   rw [v39_eq,v45_eq _ _ _ (hf i) (hp i)]
   by_cases c1:1≤(flows.getD i []).length∧(flows.getD i []).length≤4
   ·rw [decide_eq_true c1,decide_eq_true (show (1:Int)≤((flows.getD i []).length:Int)∧((flows.getD i []).length:Int)≤4 by omega)];rfl
   ·rw [decide_eq_false c1,decide_eq_false (show ¬ ((1:Int)≤((flows.getD i []).length:Int)∧((flows.getD i []).length:Int)≤4) by omega)];rfl
  unfold v65
  simp only [cond_true,Int.toNat_natCast,hv,ok_some,val_some]) fun n=>by
  show LaE (n+1) _ _ _ _ _=_
  rw [qLaE,decide_eq_false (show ¬ (flows.length:Int) < (flows.length:Int) by omega)]
  rfl
 have h3:=not_any flows [] fun f=>flowS caps.length f
 unfold v43 v64 v77
 rw [h1]
 simp only [ok_some,val_some,cond_true]
 exact congrArg some ((congrArg (!·) h2).trans h3)
theorem v25_eq {caps:List Int} {flows:Fl} {rates:List (List Int)} {prices:List Int} (h:Few caps flows rates prices):v25 caps flows=some (validS caps flows):=by
 unfold v25 validS
 have hc:=h.hc
 rw [v39_eq,v39_eq,v41_eq caps (show caps.length≤9223372036854775807 by omega),v43_eq caps flows h.hf h.flow h.path]
 simp only [ok_some,val_some,cond_true,cond_nb]
 by_cases c1:1≤caps.length∧caps.length≤8
 case neg=>rw [decide_eq_false c1,decide_eq_false (show ¬ ((1:Int)≤(caps.length:Int)∧(caps.length:Int)≤8) by omega)];rfl
 rw [decide_eq_true c1,decide_eq_true (show (1:Int)≤(caps.length:Int)∧(caps.length:Int)≤8 by omega)]
 by_cases c2:1≤flows.length∧flows.length≤8
 case neg=>rw [decide_eq_false c2,decide_eq_false (show ¬ ((1:Int)≤(flows.length:Int)∧(flows.length:Int)≤8) by omega)];rfl
 rw [decide_eq_true c2,decide_eq_true (show (1:Int)≤(flows.length:Int)∧(flows.length:Int)≤8 by omega)]
 simp only [cond_true,Bool.true_and]
 cases capsS caps<;>rfl
def ratesS (flows:Fl) (rates:List (List Int)):Bool:=decide (rates.length=flows.length)&&(List.range rates.length).all fun i=>cond (decide ((rates.getD i []).length=(flows.getD i []).length)) (upto 1000000000 (rates.getD i [])) false
def pricesS (caps prices:List Int):Bool:=decide (prices.length=caps.length)&&upto 1000000000000 prices
theorem bne_len {α β:Type} (a:List α) (b:List β):((a.length:Int) != (b.length:Int))=!decide (a.length=b.length):=by
 rw [bne_dec]
 congr 1
 apply decide_eq_decide.2
 omega
theorem v36_eq {caps:List Int} {flows:Fl} {rates:List (List Int)} {prices:List Int} (h:Few caps flows rates prices):v36 caps flows rates prices=some (ratesS flows rates&&pricesS caps prices):=by
 have hp:=h.hp
 have hr:=h.hr
 unfold v36 ratesS pricesS
 rw [bne_len,bne_len,v41_2_eq prices (show prices.length≤9223372036854775807 by omega)]
 simp only [cond_nb,ok_some,val_some,cond_true]
 by_cases c1:rates.length=flows.length
 case neg=>rw [decide_eq_false c1];rfl
 rw [decide_eq_true c1]
 have hL:Laq FU prices rates (rates.length:Int) 0 caps flows=some (cond ((List.range rates.length).all fun i=>cond (decide ((rates.getD i []).length=(flows.getD i []).length)) (upto 1000000000 (rates.getD i [])) false) (.inr ()) (.inl false)):=by
  refine all_loop (m:=rates.length) (by omega) (fun n j=>Laq n prices rates (rates.length:Int) j caps flows) _ (fun n i hi=>?_) fun n=>?_
  ·show Laq (n+1) _ _ _ _ _ _=_
   have:=h.rate i
   rw [qLaq,decide_eq_true (show (i:Int) < (rates.length:Int) by omega),decide_eq_true (show (0:Int)≤(i:Int) by omega),decide_eq_true (show (i:Int) < (flows.length:Int) by omega),up1 (by omega)]
   simp only [cond_true,Int.toNat_natCast]
   rw [bne_len,v41_1_eq _ (show (rates.getD i []).length≤9223372036854775807 by omega)]
   simp only [cond_nb,ok_some,val_some,cond_true]
   cases decide ((rates.getD i []).length=(flows.getD i []).length)<;>rfl
  ·show Laq (n+1) _ _ _ _ _ _=_
   rw [qLaq,decide_eq_false (show ¬ (rates.length:Int) < (rates.length:Int) by omega)]
   rfl
 rw [hL]
 cases decide (prices.length=caps.length) with
 | false=>simp
 | true=>
  simp only [cond_true,Bool.true_and]
  cases (List.range rates.length).all fun i=>cond (decide ((rates.getD i []).length=(flows.getD i []).length)) (upto 1000000000 (rates.getD i [])) false<;>rfl
def tab (c:Nat) (f:Nat→Int):List Int:=(List.range c).map f
@[simp] theorem tab_len (c:Nat) (f:Nat→Int):(tab c f).length=c:=by simp [tab]
theorem tab_get {c k:Nat} (f:Nat→Int) (h:k < c):(tab c f).getD k 0=f k:=by
 simp [tab,List.getD,List.getElem?_map,List.getElem?_range h]
theorem tab_congr {c:Nat} {f g:Nat→Int} (h:∀ k,k < c→f k=g k):tab c f=tab c g:=by
 unfold tab
 exact List.map_congr_left fun k hk=>h k (List.mem_range.1 hk)
theorem tab_set {c p:Nat} (f:Nat→Int) (v:Int):(tab c f).set p v=tab c fun k=>if k=p then v else f k:=by
 apply List.ext_getElem?
 intro k
 rw [List.getElem?_set]
 by_cases hk:k < c
 ·simp only [tab,List.length_map,List.length_range,List.getElem?_map,List.getElem?_range hk,Option.map_some]
  by_cases h:p=k
  ·subst h;simp [hk]
  ·rw [if_neg h,if_neg (show ¬ k=p from fun e=>h e.symm)]
 ·simp [tab,List.getElem?_eq_none (l:=List.range c) (i:=k) (by simp;omega)]
  omega
theorem tab_rep (c:Nat):List.replicate c (0:Int)=tab c fun _=>0:=by
 apply List.ext_getElem?
 intro k
 by_cases hk:k < c<;>simp [tab,hk,List.getElem?_replicate]
abbrev pth (flows:Fl) (i k:Nat):List Int:=(flows.getD i []).getD k []
abbrev rt (rates:List (List Int)) (i k:Nat):Int:=(rates.getD i []).getD k 0
def pk (l:List Int) (r:Int) (k:Nat):Int:=sumN l.length fun t=>cond (l.getD t 0==(k:Int)) r 0
def loadS (flows:Fl) (rates:List (List Int)) (k:Nat):Int:=sumN flows.length fun i=>sumN (flows.getD i []).length fun t=>pk (pth flows i t) (rt rates i t) k
def totS (r:List Int):Int:=sumN r.length fun t=>r.getD t 0
def priceS (l prices:List Int):Int:=sumN l.length fun t=>prices.getD (Int.toNat (l.getD t 0)) 0
def costS (caps prices:List Int):Int:=sumN prices.length fun k=>prices.getD k 0*caps.getD k 0
def carriesS (caps:List Int) (flows:Fl) (rates:List (List Int)):Bool:=(List.range caps.length).all fun k=>decide (loadS flows rates k≤1000000*caps.getD k 0)
def paysS (flows:Fl) (rates:List (List Int)) (prices:List Int):Bool:=(List.range flows.length).all fun i=>(List.range (flows.getD i []).length).all fun t=>decide (1000000000000≤priceS (pth flows i t) prices*totS (rates.getD i []))
def soundS (caps:List Int) (flows:Fl) (rates:List (List Int)) (prices:List Int):Bool:=carriesS caps flows rates&&paysS flows rates prices
theorem incr_spec {links:Int}:∀ {l:List Int} {last:Int},incr links last l=true→(∀ j,j < l.length→last < l.getD j 0∧l.getD j 0 < links)∧∀ a b,a < b→b < l.length→l.getD a 0 < l.getD b 0
 | [],last,_=>⟨fun j hj=>absurd hj (Nat.not_lt_zero j),fun a b _ hb=>absurd hb (Nat.not_lt_zero b)⟩
 | x::r,last,h=>by
  unfold incr at h
  by_cases c:last < x∧x < links
  ·rw [decide_eq_true c] at h
   obtain ⟨h1,h2⟩:=incr_spec h
   refine ⟨fun j hj=>?_,fun a b hab hb=>?_⟩
   ·cases j with
    | zero=>exact c
    | succ j=>
     have:=h1 j (by simpa using hj)
     have e:(x::r).getD (j+1) 0=r.getD j 0:=by simp
     rw [e];omega
   ·cases b with
    | zero=>omega
    | succ b=>
     have e:(x::r).getD (b+1) 0=r.getD b 0:=by simp
     have hb':b < r.length:=by simpa using hb
     rw [e]
     cases a with
     | zero=>exact (h1 b hb').1
     | succ a=>
      have e:(x::r).getD (a+1) 0=r.getD a 0:=by simp
      rw [e]
      exact h2 a b (by omega) hb'
  ·rw [decide_eq_false c] at h;cases h
structure Ok (caps:List Int) (flows:Fl) (rates:List (List Int)) (prices:List Int):Prop where
 few:Few caps flows rates prices
 c1:1≤caps.length∧caps.length≤8
 f1:1≤flows.length∧flows.length≤8
 cap:∀ k,0≤caps.getD k 0∧caps.getD k 0≤1000
 sub:∀ i,i < flows.length→1≤(flows.getD i []).length∧(flows.getD i []).length≤4
 hop:∀ i t,i < flows.length→t < (flows.getD i []).length→1≤(pth flows i t).length∧(pth flows i t).length≤6
 link:∀ i t j,i < flows.length→t < (flows.getD i []).length→j < (pth flows i t).length→0≤(pth flows i t).getD j 0∧(pth flows i t).getD j 0 < (caps.length:Int)
 inc:∀ i t a b,i < flows.length→t < (flows.getD i []).length→a < b→b < (pth flows i t).length→(pth flows i t).getD a 0 < (pth flows i t).getD b 0
 rl:rates.length=flows.length
 rli:∀ i,i < flows.length→(rates.getD i []).length=(flows.getD i []).length
 rate:∀ i t,0≤rt rates i t∧rt rates i t≤1000000000
 pl:prices.length=caps.length
 price:∀ k,0≤prices.getD k 0∧prices.getD k 0≤1000000000000
theorem upto_get {m:Int} (hm:0≤m) {l:List Int} (h:upto m l=true) (k:Nat):0≤l.getD k 0∧l.getD k 0≤m:=by
 by_cases hk:k < l.length
 ·have:=List.all_eq_true.1 h _ (getD_in hk 0)
  simpa using this
 ·rw [List.getD_eq_getElem?_getD,List.getElem?_eq_none (by omega)]
  exact ⟨Int.le_refl _,hm⟩
theorem ok_of {caps:List Int} {flows:Fl} {rates:List (List Int)} {prices:List Int} (hf:Few caps flows rates prices) (h1:validS caps flows=true) (h2:ratesS flows rates=true) (h3:pricesS caps prices=true):Ok caps flows rates prices:=by
 unfold validS at h1
 unfold ratesS at h2
 unfold pricesS at h3
 simp only [Bool.and_eq_true,decide_eq_true_eq] at h1 h2 h3
 obtain ⟨hc,hfl,hcs,hfs⟩:=h1
 obtain ⟨hr1,hr2⟩:=h2
 obtain ⟨hp1,hp2⟩:=h3
 have hflow:∀ i,i < flows.length→(1≤(flows.getD i []).length∧(flows.getD i []).length≤4)∧∀ t,t < (flows.getD i []).length→pathS (pth flows i t) caps.length=true:=by
  intro i hi
  have:=List.all_eq_true.1 hfs _ (getD_in hi [])
  unfold flowS at this
  by_cases c:1≤(flows.getD i []).length∧(flows.getD i []).length≤4
  ·rw [decide_eq_true c] at this
   exact ⟨c,fun t ht=>List.all_eq_true.1 this _ (getD_in ht [])⟩
  ·rw [decide_eq_false c] at this;cases this
 have hpath:∀ i t,i < flows.length→t < (flows.getD i []).length→incr caps.length (-1) (pth flows i t)=true∧1≤(pth flows i t).length∧(pth flows i t).length≤6:=by
  intro i t hi ht
  have:=(hflow i hi).2 t ht
  unfold pathS at this
  cases hx:incr caps.length (-1) (pth flows i t) with
  | false=>rw [hx] at this;cases this
  | true=>rw [hx] at this;exact ⟨rfl,by simpa using this⟩
 have hrt:∀ i,i < flows.length→(rates.getD i []).length=(flows.getD i []).length∧upto 1000000000 (rates.getD i [])=true:=by
  intro i hi
  have:=List.all_eq_true.1 hr2 i (List.mem_range.2 (by omega))
  by_cases c:(rates.getD i []).length=(flows.getD i []).length
  ·rw [decide_eq_true c] at this;exact ⟨c,this⟩
  ·rw [decide_eq_false c] at this;cases this
 refine ⟨hf,hc,hfl,fun k=>upto_get (by omega) hcs k,fun i hi=>(hflow i hi).1,fun i t hi ht=>(hpath i t hi ht).2,fun i t j hi ht hj=>?_,fun i t a b hi ht hab hb=>(incr_spec (hpath i t hi ht).1).2 a b hab hb,hr1,fun i hi=>(hrt i hi).1,fun i t=>?_,hp1,fun k=>upto_get (by omega) hp2 k⟩
 ·have:=(incr_spec (hpath i t hi ht).1).1 j hj
  omega
 ·by_cases hi:i < flows.length
  ·exact upto_get (by omega) (hrt i hi).2 t
  ·have e:rates.getD i []=[]:=by rw [List.getD_eq_getElem?_getD,List.getElem?_eq_none (by omega)];rfl
   show 0≤(rates.getD i []).getD t 0∧(rates.getD i []).getD t 0≤_
   rw [e];simp
section
variable {caps : List Int} {flows : Fl} {rates : List (List Int)} {prices : List Int} (h : Ok caps flows rates prices)
include h
theorem pk_bd {l:List Int} {r:Int} (hl:l.length≤20) (hr:0≤r∧r≤1000000000) (k:Nat):0≤pk l r k∧pk l r k≤20*1000000000:=by
 unfold pk
 exact sumN_bd hl (fun t _=>by cases (l.getD t 0==(k:Int))<;>simp<;>omega) (by omega)
theorem sub_bd {i j:Nat} (hj:j≤20) (k:Nat):0≤sumN j (fun t=>pk (pth flows i t) (rt rates i t) k)∧sumN j (fun t=>pk (pth flows i t) (rt rates i t) k)≤20*(20*1000000000):=
 sumN_bd hj (fun t _=>pk_bd h (h.few.path i t) (h.rate i t) k) (by omega)
theorem load_bd {j:Nat} (hj:j≤20) (k:Nat):0≤sumN j (fun i=>sumN (flows.getD i []).length fun t=>pk (pth flows i t) (rt rates i t) k)∧sumN j (fun i=>sumN (flows.getD i []).length fun t=>pk (pth flows i t) (rt rates i t) k)≤20*(20*(20*1000000000)):=
 sumN_bd hj (fun i _=>sub_bd h (h.few.flow i) k) (by omega)
theorem tot_bd {i j:Nat} (hj:j≤20):0≤sumN j (fun t=>rt rates i t)∧sumN j (fun t=>rt rates i t)≤20*1000000000:=
 sumN_bd hj (fun t _=>h.rate i t) (by omega)
omit h in
theorem pk_succ (l:List Int) (r:Int) (k j:Nat):sumN (j+1) (fun t=>cond (l.getD t 0==(k:Int)) r 0)=sumN j (fun t=>cond (l.getD t 0==(k:Int)) r 0)+cond (l.getD j 0==(k:Int)) r 0:=rfl
theorem l37_16 {i t:Nat} (hi:i < flows.length) (ht:t < (flows.getD i []).length) {r:Int} (hr:0≤r∧r≤1000000000) (f:Nat→Int) (hf:∀ k,0≤f k∧f k≤100000000000000) (y:List Int) :
  LaG FU (pth flows i t) ((pth flows i t).length:Int) 0 (pth flows i t) r (tab caps.length f) y=some (tab caps.length fun k=>f k+pk (pth flows i t) r k):=by
 have hl:=(h.hop i t hi ht).2
 have:=at_loop (m:=(pth flows i t).length) (by omega) (fun n j (s:List Int)=>LaG n (pth flows i t) ((pth flows i t).length:Int) j (pth flows i t) r s y)
  (fun j=>tab caps.length fun k=>f k+sumN j fun t'=>cond ((pth flows i t).getD t' 0==(k:Int)) r 0) (tab caps.length fun k=>f k+pk (pth flows i t) r k) (fun n j hj=>?_) fun n=>?_
 ·simp only [sumN,Int.add_zero] at this
  exact this
 ·show LaG (n+1) _ _ _ _ _ _ _=LaG n _ _ _ _ _ _ _
  have hk:=h.link i t j hi ht hj
  obtain ⟨p,hp⟩:∃ p:Nat,(pth flows i t).getD j 0=(p:Int):=⟨Int.toNat ((pth flows i t).getD j 0),by omega⟩
  have hpc:p < caps.length:=by omega
  rw [qLaG,decide_eq_true (show (j:Int) < ((pth flows i t).length:Int) by omega),decide_eq_true (show (0:Int)≤(j:Int) by omega),up1 (by omega)]
  simp only [cond_true,Int.toNat_natCast,hp,tab_len]
  rw [decide_eq_true (show (0:Int)≤(p:Int) by omega),decide_eq_true (show (p:Int) < (caps.length:Int) by omega),decide_eq_true hpc,tab_get _ hpc,tab_set]
  simp only [cond_true]
  congr 1
  apply tab_congr
  intro k hkc
  have hb:=sumN_bd (n:=j) (m:=20) (f:=fun t'=>cond ((pth flows i t).getD t' 0==(p:Int)) r 0) (c:=1000000000) (by omega) (fun t' _=>by cases ((pth flows i t).getD t' 0==(p:Int))<;>simp<;>omega) (by omega)
  have hfp:=hf p
  rw [pk_succ,hp]
  by_cases hkp:k=p
  ·subst hkp
   rw [if_pos rfl,wrap_id (by omega) (by omega)]
   simp;omega
  ·rw [if_neg hkp,show ((p:Int)==(k:Int))=false from beq_false_of_ne (by omega)]
   simp
 ·show LaG (n+1) _ _ _ _ _ _ _=_
  rw [qLaG,decide_eq_false (show ¬ ((pth flows i t).length:Int) < ((pth flows i t).length:Int) by omega)]
  rfl
def Ld (caps:List Int) (flows:Fl) (rates:List (List Int)) (i j:Nat):List Int:=tab caps.length fun k=>sumN i (fun q=>sumN (flows.getD q []).length fun t=>pk (pth flows q t) (rt rates q t) k)+sumN j fun t=>pk (pth flows i t) (rt rates i t) k
def Sm (flows:Fl) (rates:List (List Int)) (i j:Nat):List Int:=tab flows.length fun q=>if q < i then sumN (flows.getD q []).length (fun t=>rt rates q t) else if q=i then sumN j (fun t=>rt rates i t) else 0
theorem vR_eq {i t:Nat} (hi:i < flows.length) (ht:t < (flows.getD i []).length):vR (i:Int) (pth flows i t) (rt rates i t) (Ld caps flows rates i t) (Sm flows rates i t)=some (Ld caps flows rates i (t+1),Sm flows rates i (t+1)):=by
 unfold vR
 have h4:=(h.sub i hi).2
 have hr:=h.rate i t
 have hsl:(Sm flows rates i t).length=flows.length:=by simp [Sm]
 rw [decide_eq_true (show (0:Int)≤(i:Int) by omega),hsl,decide_eq_true (show (i:Int) < (flows.length:Int) by omega)]
 simp only [cond_true,Int.toNat_natCast]
 rw [decide_eq_true hi]
 have e1:List.set (Sm flows rates i t) i (IntKind.wrap IntKind.i64 ((Sm flows rates i t).getD i 0+rt rates i t))=Sm flows rates i (t+1):=by
  unfold Sm
  rw [tab_get _ hi,tab_set]
  apply tab_congr
  intro q hq
  have hb:=tot_bd h (i:=i) (j:=t) (by omega)
  by_cases hqi:q=i
  ·subst hqi
   rw [if_pos rfl,if_neg (Nat.lt_irrefl q),if_pos rfl,if_neg (Nat.lt_irrefl q),if_pos rfl,wrap_id (by omega) (by omega)]
   rfl
  ·rw [if_neg hqi,if_neg hqi,if_neg hqi]
 have e2:=l37_16 h hi ht hr (fun k=>sumN i (fun q=>sumN (flows.getD q []).length fun t=>pk (pth flows q t) (rt rates q t) k)+sumN t fun t=>pk (pth flows i t) (rt rates i t) k)
  (fun k=>by
   have:=load_bd h (j:=i) (by have:=h.few.hf;omega) k
   have:=sub_bd h (i:=i) (j:=t) (by omega) k
   omega) (Sm flows rates i (t+1))
 simp only [cond_true]
 rw [e1]
 unfold Ld
 rw [e2]
 simp only [ok_some,val_some,cond_true]
 congr 1
 rw [Prod.mk.injEq]
 refine ⟨tab_congr fun k hk=>?_,rfl⟩
 simp only [sumN]
 omega
theorem l76_16 {i:Nat} (hi:i < flows.length):Lav FU (i:Int) flows (flows.length:Int) (i:Int) (flows.getD i []) ((flows.getD i []).length:Int) 0 (Ld caps flows rates i 0) (Sm flows rates i 0) caps flows rates=some (Ld caps flows rates i (flows.getD i []).length,Sm flows rates i (flows.getD i []).length):=by
 have h4:=(h.sub i hi).2
 have hrl:=h.rli i hi
 have hr:=h.rl
 refine at_loop (m:=(flows.getD i []).length) (by omega) (fun n j (s:List Int×List Int)=>Lav n (i:Int) flows (flows.length:Int) (i:Int) (flows.getD i []) ((flows.getD i []).length:Int) j s.1 s.2 caps flows rates)
  (fun j=>(Ld caps flows rates i j,Sm flows rates i j)) (Ld caps flows rates i (flows.getD i []).length,Sm flows rates i (flows.getD i []).length) (fun n j hj=>?_) fun n=>?_
 ·show Lav (n+1) _ _ _ _ _ _ _ _ _ _ _ _=Lav n _ _ _ _ _ _ _ _ _ _ _ _
  have hv:=vR_eq h hi hj
  rw [qLav,decide_eq_true (show (j:Int) < ((flows.getD i []).length:Int) by omega),decide_eq_true (show (0:Int)≤(j:Int) by omega),decide_eq_true (show (0:Int)≤(i:Int) by omega),decide_eq_true (show (i:Int) < (rates.length:Int) by omega),up1 (by omega)]
  simp only [cond_true,Int.toNat_natCast]
  rw [decide_eq_true (show (j:Int) < ((rates.getD i []).length:Int) by omega),hv]
  simp only [cond_true,ok_some,val_some]
 ·show Lav (n+1) _ _ _ _ _ _ _ _ _ _ _ _=_
  rw [qLav,decide_eq_false (show ¬ ((flows.getD i []).length:Int) < ((flows.getD i []).length:Int) by omega)]
  rfl
omit h in
theorem Ld_next (i:Nat):Ld caps flows rates i (flows.getD i []).length=Ld caps flows rates (i+1) 0:=by
 unfold Ld
 apply tab_congr
 intro k hk
 simp only [sumN,Int.add_zero]
omit h in
theorem Sm_next (i:Nat):Sm flows rates i (flows.getD i []).length=Sm flows rates (i+1) 0:=by
 unfold Sm
 apply tab_congr
 intro q hq
 by_cases h1:q < i
 ·rw [if_pos h1,if_pos (by omega)]
 rw [if_neg h1]
 by_cases h2:q=i
 ·subst h2;rw [if_pos rfl,if_pos (by omega)]
 rw [if_neg h2,if_neg (by omega)]
 split<;>rfl
theorem v76_eq:v76 (List.replicate caps.length 0) (List.replicate flows.length 0) caps flows rates=some (tab caps.length (loadS flows rates),tab flows.length fun i=>totS (rates.getD i [])):=by
 have hf:=h.few.hf
 have h0:Las FU flows (flows.length:Int) 0 (Ld caps flows rates 0 0) (Sm flows rates 0 0) caps flows rates=some (Ld caps flows rates flows.length 0,Sm flows rates flows.length 0):=by
  refine at_loop (m:=flows.length) (by omega) (fun n j (s:List Int×List Int)=>Las n flows (flows.length:Int) j s.1 s.2 caps flows rates)
   (fun j=>(Ld caps flows rates j 0,Sm flows rates j 0)) (Ld caps flows rates flows.length 0,Sm flows rates flows.length 0) (fun n i hi=>?_) fun n=>?_
  ·show Las (n+1) _ _ _ _ _ _ _ _=Las n _ _ _ _ _ _ _ _
   rw [qLas,decide_eq_true (show (i:Int) < (flows.length:Int) by omega),decide_eq_true (show (0:Int)≤(i:Int) by omega),up1 (by omega)]
   simp only [cond_true,Int.toNat_natCast]
   rw [l76_16 h hi]
   simp only [cond_true,ok_some,val_some]
   rw [Ld_next,Sm_next]
  ·show Las (n+1) _ _ _ _ _ _ _ _=_
   rw [qLas,decide_eq_false (show ¬ (flows.length:Int) < (flows.length:Int) by omega)]
   rfl
 have e1:List.replicate caps.length (0:Int)=Ld caps flows rates 0 0:=tab_rep _
 have e2:List.replicate flows.length (0:Int)=Sm flows rates 0 0:=by
  rw [tab_rep];unfold Sm
  apply tab_congr
  intro q _
  rw [if_neg (by omega)]
  split<;>rfl
 have e3:Ld caps flows rates flows.length 0=tab caps.length (loadS flows rates):=tab_congr fun k _=>Int.add_zero _
 have e4:Sm flows rates flows.length 0=tab flows.length fun i=>totS (rates.getD i []):=by
  apply tab_congr
  intro q hq
  rw [if_pos hq]
  unfold totS
  rw [h.rli q hq]
 unfold v76
 rw [e1,e2,h0]
 simp only [ok_some,val_some,cond_true,e3,e4]
theorem price_bd {i t j:Nat} (hj:j≤20):0≤sumN j (fun x=>prices.getD (Int.toNat ((pth flows i t).getD x 0)) 0)∧sumN j (fun x=>prices.getD (Int.toNat ((pth flows i t).getD x 0)) 0)≤20*1000000000000:=
 sumN_bd hj (fun x _=>h.price _) (by omega)
theorem l37_64 {i t:Nat} (hi:i < flows.length) (ht:t < (flows.getD i []).length) (b:Bool) (y:List Int):Lal FU (i:Int) 0 (pth flows i t) ((pth flows i t).length:Int) 0 prices b y=some (priceS (pth flows i t) prices):=by
 have hl:=(h.hop i t hi ht).2
 refine at_loop (m:=(pth flows i t).length) (by omega) (fun n j (s:Int)=>Lal n (i:Int) s (pth flows i t) ((pth flows i t).length:Int) j prices b y)
  (fun j=>sumN j fun x=>prices.getD (Int.toNat ((pth flows i t).getD x 0)) 0) (priceS (pth flows i t) prices) (fun n j hj=>?_) fun n=>?_
 ·show Lal (n+1) _ _ _ _ _ _ _ _=Lal n _ _ _ _ _ _ _ _
  have hk:=h.link i t j hi ht hj
  have hpl:=h.pl
  have hb:=price_bd h (i:=i) (t:=t) (j:=j+1) (by omega)
  have hs:sumN (j+1) (fun x=>prices.getD (Int.toNat ((pth flows i t).getD x 0)) 0)=sumN j (fun x=>prices.getD (Int.toNat ((pth flows i t).getD x 0)) 0)+prices.getD (Int.toNat ((pth flows i t).getD j 0)) 0:=rfl
  rw [qLal,decide_eq_true (show (j:Int) < ((pth flows i t).length:Int) by omega),decide_eq_true (show (0:Int)≤(j:Int) by omega),up1 (by omega)]
  simp only [cond_true,Int.toNat_natCast]
  rw [decide_eq_true hk.1,decide_eq_true (show (pth flows i t).getD j 0 < (prices.length:Int) by omega),← hs,wrap_id (by omega) (by omega)]
  rfl
 ·show Lal (n+1) _ _ _ _ _ _ _ _=_
  rw [qLal,decide_eq_false (show ¬ ((pth flows i t).length:Int) < ((pth flows i t).length:Int) by omega)]
  rfl
theorem priceS_bd {i t:Nat}:0≤priceS (pth flows i t) prices∧priceS (pth flows i t) prices≤20*1000000000000:=price_bd h (h.few.path i t)
theorem totS_bd (i:Nat):0≤totS (rates.getD i [])∧totS (rates.getD i [])≤20*1000000000:=tot_bd h (i:=i) (h.few.rate i)
theorem vR_1_eq {i t:Nat} (hi:i < flows.length) (ht:t < (flows.getD i []).length) (x:Int) (b:Bool):vR_1 (i:Int) (pth flows i t) x prices b (tab flows.length fun i=>totS (rates.getD i []))=
  some (cond (decide (1000000000000≤priceS (pth flows i t) prices*totS (rates.getD i []))) (.inr ()) (.inl ())):=by
 unfold vR_1
 rw [l37_64 h hi ht,ok_some,val_some]
 have hp:=priceS_bd h (i:=i) (t:=t)
 have hx:=totS_bd h i
 simp only [ok_some,val_some,cond_true,tab_len,Int.toNat_natCast]
 rw [decide_eq_true (show (0:Int)≤(i:Int) by omega),decide_eq_true (show (i:Int) < (flows.length:Int) by omega),decide_eq_true hi,beq_dec]
 simp only [cond_true,tab_get (fun i=>totS (rates.getD i [])) hi]
 generalize hP:priceS (pth flows i t) prices=p at*
 generalize hX:totS (rates.getD i [])=y at*
 by_cases c:p=0
 ·rw [decide_eq_true c,c,decide_eq_false (show ¬ (1000000000000:Int)≤0*y by omega)];rfl
 rw [decide_eq_false c,@decide_eq_true _ _ (show p≠0 from c)]
 have hc:=ceil_lt (p:=p) (x:=y) (c:=1000000000000) (by omega) (by omega) (by omega)
 have hc2:=ceil_le (p:=p) (c:=1000000000000) (by omega) (by omega)
 have w1:IntKind.wrap IntKind.i64 (1000000000000+p)=1000000000000+p:=wrap_id (by omega) (by omega)
 have w2:IntKind.wrap IntKind.i64 (1000000000000+p - 1)=1000000000000+p - 1:=wrap_id (by omega) (by omega)
 have w3:IntKind.wrap IntKind.i64 (Int.tdiv (1000000000000+p - 1) p)=Int.tdiv (1000000000000+p - 1) p:=wrap_id (by omega) (by omega)
 simp only [cond_true,cond_false,w1,w2,w3]
 by_cases c2:p*y < 1000000000000
 ·rw [decide_eq_true (hc.2 c2),decide_eq_false (show ¬ 1000000000000≤p*y by omega)];rfl
 ·rw [decide_eq_false (show ¬ _ from fun e=>c2 (hc.1 e)),decide_eq_true (show 1000000000000≤p*y by omega)];rfl
theorem v76_1_eq (b:Bool):v76_1 prices b (tab flows.length fun i=>totS (rates.getD i [])) caps flows rates=some (cond (paysS flows rates prices) (.inr ()) (.inl false)):=by
 have hf:=h.few.hf
 have hr:=h.rl
 have h0:Lat FU flows (flows.length:Int) 0 prices b (tab flows.length fun i=>totS (rates.getD i [])) caps flows rates=some (cond (paysS flows rates prices) (.inr ()) (.inl false)):=by
  unfold paysS
  refine all_loop (m:=flows.length) (by omega) (fun n j=>Lat n flows (flows.length:Int) j prices b (tab flows.length fun i=>totS (rates.getD i [])) caps flows rates) _ (fun n i hi=>?_) fun n=>?_
  ·show Lat (n+1) _ _ _ _ _ _ _ _ _=_
   have h4:=(h.sub i hi).2
   have hrl:=h.rli i hi
   have h1:Lar FU (i:Int) flows (flows.length:Int) (i:Int) (flows.getD i []) ((flows.getD i []).length:Int) 0 prices b (tab flows.length fun i=>totS (rates.getD i [])) caps flows rates=some (cond ((List.range (flows.getD i []).length).all fun t=>decide (1000000000000≤priceS (pth flows i t) prices*totS (rates.getD i []))) (.inr ()) (.inl false)):=by
    refine all_loop (m:=(flows.getD i []).length) (by omega) (fun n j=>Lar n (i:Int) flows (flows.length:Int) (i:Int) (flows.getD i []) ((flows.getD i []).length:Int) j prices b (tab flows.length fun i=>totS (rates.getD i [])) caps flows rates) _ (fun n j hj=>?_) fun n=>?_
    ·show Lar (n+1) _ _ _ _ _ _ _ _ _ _ _ _ _=_
     have hv:=vR_1_eq h hi hj (rt rates i j) b
     rw [qLar,decide_eq_true (show (j:Int) < ((flows.getD i []).length:Int) by omega),decide_eq_true (show (0:Int)≤(j:Int) by omega),decide_eq_true (show (0:Int)≤(i:Int) by omega),decide_eq_true (show (i:Int) < (rates.length:Int) by omega),up1 (by omega)]
     simp only [cond_true,Int.toNat_natCast]
     rw [decide_eq_true (show (j:Int) < ((rates.getD i []).length:Int) by omega),hv]
     cases decide (1000000000000≤priceS (pth flows i j) prices*totS (rates.getD i []))<;>rfl
    ·show Lar (n+1) _ _ _ _ _ _ _ _ _ _ _ _ _=_
     rw [qLar,decide_eq_false (show ¬ ((flows.getD i []).length:Int) < ((flows.getD i []).length:Int) by omega)]
     rfl
   rw [qLat,decide_eq_true (show (i:Int) < (flows.length:Int) by omega),decide_eq_true (show (0:Int)≤(i:Int) by omega),up1 (by omega)]
   simp only [cond_true,Int.toNat_natCast]
   rw [h1]
   cases (List.range (flows.getD i []).length).all fun t=>decide (1000000000000≤priceS (pth flows i t) prices*totS (rates.getD i []))<;>rfl
  ·show Lat (n+1) _ _ _ _ _ _ _ _ _=_
   rw [qLat,decide_eq_false (show ¬ (flows.length:Int) < (flows.length:Int) by omega)]
   rfl
 unfold v76_1
 rw [h0]
 cases paysS flows rates prices<;>rfl
theorem v37_eq:v37 caps flows rates prices=some (soundS caps flows rates prices):=by
 have hc:=h.few.hc
 have hf:=h.few.hf
 have hn:∀ n:Nat,Int.toNat (n:Int)=n:=fun n=>Int.toNat_natCast n
 unfold v37 soundS
 rw [hn,hn,v76_eq h]
 rw [decide_eq_true (show (caps.length:Int)≤(caps.length:Int) by omega),decide_eq_true (show (caps.length:Int)≤((2147483648:Nat):Int) by omega),decide_eq_true (show (flows.length:Int)≤(flows.length:Int) by omega),decide_eq_true (show (flows.length:Int)≤((2147483648:Nat):Int) by omega)]
 simp only [ok_some,val_some,cond_true,tab_len]
 have h0:Lap FU rates (caps.length:Int) 0 caps flows (tab flows.length fun i=>totS (rates.getD i [])) false (tab caps.length (loadS flows rates)) prices=some (cond (carriesS caps flows rates) (.inr ()) (.inl false)):=by
  unfold carriesS
  refine all_loop (m:=caps.length) (by omega) (fun n j=>Lap n rates (caps.length:Int) j caps flows (tab flows.length fun i=>totS (rates.getD i [])) false (tab caps.length (loadS flows rates)) prices) _ (fun n k hk=>?_) fun n=>?_
  ·show Lap (n+1) _ _ _ _ _ _ _ _ _=_
   have hcap:=h.cap k
   rw [qLap,decide_eq_true (show (k:Int) < (caps.length:Int) by omega),decide_eq_true (show (0:Int)≤(k:Int) by omega),up1 (by omega)]
   simp only [cond_true,Int.toNat_natCast,tab_len]
   rw [decide_eq_true (show (k:Int) < (caps.length:Int) by omega),decide_eq_true hk]
   have w1:IntKind.wrap IntKind.i64 (1000000*caps.getD k 0)=1000000*caps.getD k 0:=wrap_id (by omega) (by omega)
   simp only [cond_true,tab_get (loadS flows rates) hk,w1]
   by_cases c:loadS flows rates k≤1000000*caps.getD k 0
   ·rw [decide_eq_true c,decide_eq_false (show ¬ loadS flows rates k > 1000000*caps.getD k 0 by omega)];rfl
   ·rw [decide_eq_false c,decide_eq_true (show loadS flows rates k > 1000000*caps.getD k 0 by omega)];rfl
  ·show Lap (n+1) _ _ _ _ _ _ _ _ _=_
   rw [qLap,decide_eq_false (show ¬ (caps.length:Int) < (caps.length:Int) by omega)]
   rfl
 rw [h0,v76_1_eq h]
 cases carriesS caps flows rates with
 | false=>rfl
 | true=>cases paysS flows rates prices<;>rfl
theorem cost_bd {j:Nat} (hj:j≤20):0≤sumN j (fun k=>prices.getD k 0*caps.getD k 0)∧sumN j (fun k=>prices.getD k 0*caps.getD k 0)≤20*(1000000000000*1000):=
 sumN_bd hj (fun k _=>by
  have hp:=h.price k
  have hc:=h.cap k
  exact ⟨Int.mul_nonneg hp.1 hc.1,Int.le_trans (Int.mul_le_mul_of_nonneg_right hp.2 hc.1) (Int.mul_le_mul_of_nonneg_left hc.2 (by omega))⟩) (by omega)
theorem v38_eq:v38 caps flows prices=some (costS caps prices):=by
 have hp:=h.few.hp
 have hpl:=h.pl
 have h0:LaN FU 0 prices (prices.length:Int) 0 caps flows=some (costS caps prices):=by
  refine at_loop (m:=prices.length) (by omega) (fun n j (s:Int)=>LaN n s prices (prices.length:Int) j caps flows) (fun j=>sumN j fun k=>prices.getD k 0*caps.getD k 0) (costS caps prices) (fun n k hk=>?_) fun n=>?_
  ·show LaN (n+1) _ _ _ _ _ _=LaN n _ _ _ _ _ _
   have hb:=cost_bd h (j:=k+1) (by omega)
   have hb0:=cost_bd h (j:=k) (by omega)
   have hs:sumN (k+1) (fun k=>prices.getD k 0*caps.getD k 0)=sumN k (fun k=>prices.getD k 0*caps.getD k 0)+prices.getD k 0*caps.getD k 0:=rfl
   have hk1:=h.price k
   have hk2:=h.cap k
   have hm0:0≤prices.getD k 0*caps.getD k 0:=Int.mul_nonneg hk1.1 hk2.1
   rw [qLaN,decide_eq_true (show (k:Int) < (prices.length:Int) by omega),decide_eq_true (show (0:Int)≤(k:Int) by omega),decide_eq_true (show (k:Int) < (caps.length:Int) by omega),up1 (by omega)]
   simp only [cond_true,Int.toNat_natCast]
   rw [wrap_id (x:=prices.getD k 0*caps.getD k 0) (by omega) (by omega),← hs,wrap_id (by omega) (by omega)]
  ·show LaN (n+1) _ _ _ _ _ _=_
   rw [qLaN,decide_eq_false (show ¬ (prices.length:Int) < (prices.length:Int) by omega)]
   rfl
 unfold v38
 rw [h0];rfl
end
def gapS (caps:List Int) (flows:Fl) (rates:List (List Int)) (prices:List Int):Int×Int:=
 cond (validS caps flows&&(ratesS flows rates&&pricesS caps prices)) (cond (soundS caps flows rates prices) (cond (decide (max 0 (costS caps prices - 1000000*(flows.length:Int))≤1000000000000)) (max 0 (costS caps prices - 1000000*(flows.length:Int)),0) (0,3)) (0,17)) (0,1)
theorem v21_eq {caps:List Int} {flows:Fl} {rates:List (List Int)} {prices:List Int} (hf:Few caps flows rates prices):v21 caps flows rates prices=some (gapS caps flows rates prices):=by
 unfold v21 gapS
 rw [v25_eq hf,v36_eq hf]
 simp only [ok_some,val_some,cond_true,cond_nb]
 cases h1:validS caps flows with
 | false=>rfl
 | true=>
  cases h2:ratesS flows rates with
  | false=>rfl
  | true=>
   cases h3:pricesS caps prices with
   | false=>rfl
   | true=>
    have h:=ok_of hf h1 h2 h3
    have hc:=cost_bd h (j:=prices.length) hf.hp
    have hfl:=hf.hf
    have hc':0≤costS caps prices∧costS caps prices≤20*(1000000000000*1000):=hc
    rw [v37_eq h,v38_eq h]
    simp only [ok_some,val_some,cond_true,Bool.and_self]
    have w1:IntKind.wrap IntKind.i64 (1000000*(flows.length:Int))=1000000*(flows.length:Int):=wrap_id (by omega) (by omega)
    have w2:IntKind.wrap IntKind.i64 (costS caps prices - 1000000*(flows.length:Int))=costS caps prices - 1000000*(flows.length:Int):=wrap_id (by omega) (by omega)
    simp only [w1,w2]
    cases soundS caps flows rates prices with
    | false=>rfl
    | true=>
     simp only [cond_true]
     generalize max 0 (costS caps prices - 1000000*(flows.length:Int))=g
     by_cases c:g≤1000000000000
     ·rw [decide_eq_true c,decide_eq_false (show ¬ g > 1000000000000 by omega)];rfl
     ·rw [decide_eq_false c,decide_eq_true (show g > 1000000000000 by omega)];rfl
def checkS (caps:List Int) (flows:Fl) (rates:List (List Int)) (prices:List Int) (gap:Int):Bool:=
 decide ((gapS caps flows rates prices).2=0∧(gapS caps flows rates prices).1≤gap∧gap≤1000000000000)
theorem cond_dec {α:Type} {p:Prop} {inst:Decidable p} (h:p) (a b:α):cond (@decide p inst) a b=a:=by rw [decide_eq_true h];rfl
def lsum {α:Type} (g:α→Int):List α→Int
 | []=>0
 | x::l=>g x+lsum g l
section
variable {α : Type}
theorem lsum_app (g:α→Int):∀ (a b:List α),lsum g (a++b)=lsum g a+lsum g b
 | [],b=>by simp [lsum]
 | x::a,b=>by simp only [List.cons_append,lsum,lsum_app g a b];omega
theorem take_next (l:List α) (d:α) {i:Nat} (h:i < l.length):l.take (i+1)=l.take i++[l.getD i d]:=by
 rw [List.take_add_one,List.getD_eq_getElem?_getD,List.getElem?_eq_getElem h];rfl
theorem lsum_take (g:α→Int) (l:List α) (d:α) {i:Nat} (h:i < l.length):lsum g (l.take (i+1))=lsum g (l.take i)+g (l.getD i d):=by
 rw [take_next l d h,lsum_app];simp [lsum]
theorem lsum_bd {g:α→Int} {c:Int}:∀ {l:List α},(∀ x∈l,0≤g x∧g x≤c)→0≤lsum g l∧lsum g l≤l.length*c
 | [],_=>by simp [lsum]
 | x::l,h=>by
  have h1:=h x List.mem_cons_self
  have h2:=lsum_bd (l:=l) fun y hy=>h y (List.mem_cons_of_mem _ hy)
  have e:((x::l).length:Int)*c=(l.length:Int)*c+c:=by
   rw [List.length_cons,Int.natCast_add,Int.add_mul];simp
  rw [e];simp only [lsum];omega
theorem lsum_bdn {g:α→Int} {c:Int} {m:Nat} (hc:0≤c) {l:List α} (hl:l.length≤m) (h:∀ x∈l,0≤g x∧g x≤c):0≤lsum g l∧lsum g l≤m*c:=by
 have h1:=lsum_bd h
 have h2:(l.length:Int)*c≤(m:Int)*c:=Int.mul_le_mul_of_nonneg_right (by omega) hc
 omega
theorem lsum_one {g:α→Int}:∀ {l:List α},(∀ x∈l,0≤g x)→∀ {x},x∈l→g x≤lsum g l
 | y::l,h,x,hx=>by
  have h1:=h y List.mem_cons_self
  have h2:0≤lsum g l:=by
   clear hx
   induction l with
   | nil=>exact Int.le_refl _
   | cons z l ih=>
    have:=h z (by simp)
    have:=ih fun w hw=>h w (by rcases List.mem_cons.1 hw with e | e<;>simp [e])
    simp only [lsum];omega
  rcases List.mem_cons.1 hx with rfl | hx
  ·simp only [lsum];omega
  ·have:=lsum_one (l:=l) (fun w hw=>h w (List.mem_cons_of_mem _ hw)) hx
   simp only [lsum];omega
theorem lsum_congr {f g:α→Int}:∀ {l:List α},(∀ x∈l,f x=g x)→lsum f l=lsum g l
 | [],_=>rfl
 | x::l,h=>by simp only [lsum];rw [h x List.mem_cons_self,lsum_congr fun y hy=>h y (List.mem_cons_of_mem _ hy)]
theorem take_mem {l:List α} {i:Nat} {x:α} (h:x∈l.take i):x∈l:=List.mem_of_mem_take h
theorem take_all (l:List α):l.take l.length=l:=List.take_length
def minF (g:α→Int) (o:Int) (y:α):Int:=min o (g y)
def minL (g:α→Int):List α→Int
 | []=>0
 | x::l=>l.foldl (minF g) (g x)
theorem foldl_min (g:α→Int):∀ (l:List α) (o:Int),l.foldl (minF g) o≤o∧(∀ x∈l,l.foldl (minF g) o≤g x)∧(l.foldl (minF g) o=o∨∃ x∈l,l.foldl (minF g) o=g x)
 | [],o=>⟨Int.le_refl _,(fun x hx=>nomatch hx),.inl rfl⟩
 | y::l,o=>by
  obtain ⟨h1,h2,h3⟩:=foldl_min g l (minF g o y)
  have m1:minF g o y≤o:=Int.min_le_left _ _
  have m2:minF g o y≤g y:=Int.min_le_right _ _
  refine ⟨Int.le_trans h1 m1,fun x hx=>?_,?_⟩
  ·rcases List.mem_cons.1 hx with rfl | hx
   ·exact Int.le_trans h1 m2
   ·exact h2 x hx
  ·rcases h3 with h3 | ⟨x,hx,h3⟩
   ·simp only [List.foldl_cons,h3]
    unfold minF
    rcases Int.le_total o (g y) with c | c
    ·exact .inl (Int.min_eq_left c)
    ·exact .inr ⟨y,List.mem_cons_self,Int.min_eq_right c⟩
   ·exact .inr ⟨x,List.mem_cons_of_mem _ hx,h3⟩
theorem minL_le {g:α→Int}:∀ {l:List α} {x:α},x∈l→minL g l≤g x
 | y::l,x,hx=>by
  obtain ⟨h1,h2,_⟩:=foldl_min g l (g y)
  rcases List.mem_cons.1 hx with rfl | hx
  ·exact h1
  ·exact h2 x hx
theorem minL_at {g:α→Int}:∀ {l:List α},0 < l.length→∃ x∈l,minL g l=g x
 | y::l,_=>by
  obtain ⟨_,_,h3⟩:=foldl_min g l (g y)
  rcases h3 with h3 | ⟨x,hx,h3⟩
  ·exact ⟨y,List.mem_cons_self,h3⟩
  ·exact ⟨x,List.mem_cons_of_mem _ hx,h3⟩
theorem foldl_take {σ:Type} (f:σ→α→σ) (s:σ) (l:List α) (d:α) {i:Nat} (h:i < l.length):(l.take (i+1)).foldl f s=f ((l.take i).foldl f s) (l.getD i d):=by
 rw [take_next l d h,List.foldl_append];rfl
end
structure Nw (caps:List Int) (flows:List (List Int)):Prop where
 f1:1≤flows.length
 nf:flows.length≤8
 lk:caps.length≤8
 cp:∀ t,0≤caps.getD t 0∧caps.getD t 0≤1000
 h1:∀ f∈flows,1≤f.length∧f.length≤6
 nd:∀ f∈flows,f.Nodup
 rg:∀ f∈flows,∀ k∈f,0≤k∧k < (caps.length:Int)
def Used (flows:List (List Int)) (t:Nat):Prop:=∃ f∈flows,(t:Int)∈f
def Fit (caps:List Int) (flows:List (List Int)):Prop:=∀ t,Used flows t→1≤caps.getD t 0
structure Wt (n:Nat) (flows:List (List Int)) (ws:List Int):Prop where
 len:ws.length=n
 bd:∀ t,0≤ws.getD t 0∧ws.getD t 0≤100000
 us:∀ t,1≤ws.getD t 0↔Used flows t
def wS (ws fl:List Int):Int:=lsum (fun k=>ws.getD k.toNat 0) fl
def partS (ws fl:List Int):Int:=Int.tdiv 1000000000 (wS ws fl)
def onS (t:Nat) (p:Int) (fl:List Int):Int:=if (t:Int)∈fl then p else 0
def loadS1 (ws:List Int) (flows:List (List Int)) (t:Nat):Int:=lsum (fun fl=>onS t (partS ws fl) fl) flows
def loadL (ws:List Int) (flows:List (List Int)):List Int:=tab ws.length (loadS1 ws flows)
theorem used_at {flows:List (List Int)} {f:List Int} (hf:f∈flows) {k:Int} (hk:k∈f) (h0:0≤k):Used flows k.toNat:=⟨f,hf,by rw [Int.toNat_of_nonneg h0];exact hk⟩
section
variable {caps : List Int} {flows : List (List Int)} {ws : List Int} (hn : Nw caps flows) (hw : Wt caps.length flows ws)
include hn hw
theorem wS_bd {f:List Int} (hf:f∈flows):1≤wS ws f∧wS ws f≤600000∧∀ k∈f,1≤ws.getD k.toNat 0∧ws.getD k.toNat 0≤wS ws f:=by
 have h1:=lsum_bdn (g:=fun k=>ws.getD k.toNat 0) (c:=100000) (m:=6) (by omega) (hn.h1 f hf).2 fun k hk=>hw.bd _
 have hall:∀ k∈f,1≤ws.getD k.toNat 0∧ws.getD k.toNat 0≤wS ws f:=fun k hk=>
  ⟨(hw.us _).2 (used_at hf hk (hn.rg f hf k hk).1),lsum_one (g:=fun k=>ws.getD k.toNat 0) (fun y _=>(hw.bd _).1) hk⟩
 refine ⟨?_,by have:=h1.2;unfold wS;omega,hall⟩
 have hl:=(hn.h1 f hf).1
 obtain ⟨k,hk⟩:=List.exists_mem_of_length_pos (by omega:0 < f.length)
 have:=hall k hk
 omega
theorem part_bd {f:List Int} (hf:f∈flows):1000≤partS ws f∧partS ws f≤1000000000:=by
 obtain ⟨h1,h2,_⟩:=wS_bd hn hw hf
 unfold partS
 rw [Int.tdiv_eq_ediv_of_nonneg (by omega)]
 constructor
 ·rw [Int.le_ediv_iff_mul_le (by omega)];omega
 ·exact Int.ediv_le_self _ (by omega)
theorem on_bd {f:List Int} (hf:f∈flows) (t:Nat):0≤onS t (partS ws f) f∧onS t (partS ws f) f≤1000000000:=by
 have:=part_bd hn hw hf
 unfold onS
 split<;>omega
theorem load_bd1 (t:Nat):0≤loadS1 ws flows t∧loadS1 ws flows t≤8000000000:=by
 have:=lsum_bdn (g:=fun fl=>onS t (partS ws fl) fl) (c:=1000000000) (m:=8) (by omega) hn.nf fun f hf=>on_bd hn hw hf t
 exact ⟨this.1,by have:=this.2;unfold loadS1;omega⟩
theorem load_ge {f:List Int} (hf:f∈flows) {t:Nat} (ht:(t:Int)∈f):partS ws f≤loadS1 ws flows t:=by
 have:=lsum_one (g:=fun fl=>onS t (partS ws fl) fl) (fun y hy=>(on_bd hn hw hy t).1) hf
 unfold loadS1
 have e:onS t (partS ws f) f=partS ws f:=by unfold onS;rw [if_pos ht]
 omega
theorem load_pos {t:Nat} (ht:Used flows t):1000≤loadS1 ws flows t:=by
 obtain ⟨f,hf,h⟩:=ht
 have:=load_ge hn hw hf h
 have:=part_bd hn hw hf
 omega
omit hn hw in
theorem fget (l:List (List Int)) {i:Nat} (h:i < l.length):l.getD i []∈l:=getD_in h []
omit hn in
theorem v71_eq {x:Int} (hx:0≤x∧x < (caps.length:Int)) (lim ld:List Int):v71 x caps flows lim ws ld=some (ws.getD x.toNat 0):=by
 have hl:=hw.len
 unfold v71
 rw [decide_eq_true hx.1,decide_eq_true (show x < (ws.length:Int) by omega),decide_eq_true (show x.toNat < ws.length by omega)]
 rfl
theorem v70_eq {f:List Int} (hf:f∈flows) (lim ld:List Int):v70 f caps flows lim ws ld=some (wS ws f):=by
 have hl:=hn.h1 f hf
 have h0:LaM FU 0 f (f.length:Int) 0 caps flows lim ws ld=some (wS ws f):=by
  refine at_loop (m:=f.length) (by omega) (fun n j (s:Int)=>LaM n s f (f.length:Int) j caps flows lim ws ld) (fun j=>lsum (fun k=>ws.getD k.toNat 0) (f.take j)) (wS ws f) (fun n j hj=>?_) (fun n=>?_)
  ·show LaM (n+1) _ _ _ _ _ _ _ _ _=LaM n _ _ _ _ _ _ _ _ _
   have hb:=lsum_bdn (g:=fun k=>ws.getD k.toNat 0) (c:=100000) (m:=6) (by omega) (l:=f.take (j+1)) (by rw [List.length_take];omega) fun k hk=>hw.bd _
   have e71:=v71_eq hw (x:=f.getD j 0) (hn.rg f hf _ (getD_in hj 0)) lim ld
   rw [lsum_take (fun k=>ws.getD k.toNat 0) f 0 hj] at hb ⊢
   rw [qLaM,decide_eq_true (show (j:Int) < (f.length:Int) by omega),decide_eq_true (show (0:Int)≤(j:Int) by omega),up1 (by omega)]
   simp only [cond_true,Int.toNat_natCast]
   rw [e71,ok_some,val_some,cond_true,wrap_id (by omega) (by omega)]
  ·show LaM (n+1) _ _ _ _ _ _ _ _ _=_
   rw [qLaM,decide_eq_false (show ¬ (f.length:Int) < (f.length:Int) by omega),take_all]
   rfl
 unfold v70
 rw [h0];rfl
theorem v52_eq {f:List Int} (hf:f∈flows) (lim ld:List Int):v52 f caps flows lim ws ld=some (wS ws f):=by
 unfold v52
 rw [v70_eq hn hw hf lim ld];rfl
omit hw in
theorem l48_16 {f:List Int} (hf:f∈flows) {p:Int} (hp:0≤p∧p≤1000000000) (x0:List (List Int)) (x2 x3:Int) (lim:List Int) (A:Nat→Int) (hA:∀ t,0≤A t∧A t≤100000000000) :
  LaB FU p x0 x2 x3 f (f.length:Int) 0 caps flows lim ws (tab caps.length A)=some (tab caps.length fun t=>A t+onS t p f):=by
 have hl:=hn.h1 f hf
 have hnd:=hn.nd f hf
 have e0:tab caps.length A=tab caps.length fun t=>A t+onS t p (f.take 0):=tab_congr fun t _=>by simp [onS]
 rw [e0]
 refine at_loop (m:=f.length) (by omega) (fun n j (s:List Int)=>LaB n p x0 x2 x3 f (f.length:Int) j caps flows lim ws s) (fun j=>tab caps.length fun t=>A t+onS t p (f.take j)) _ (fun n j hj=>?_) (fun n=>?_)
 ·show LaB (n+1) _ _ _ _ _ _ _ _ _ _ _ _=LaB n _ _ _ _ _ _ _ _ _ _ _ _
  have hr:=hn.rg f hf _ (getD_in hj 0)
  have hk:(f.getD j 0).toNat < caps.length:=by omega
  have hv:=hA (f.getD j 0).toNat
  have hnot:¬ f.getD j 0∈f.take j:=by
   intro hm
   obtain ⟨i,hi,e⟩:=List.getElem_of_mem hm
   have hi2:i < j:=by rw [List.length_take] at hi;omega
   rw [List.getElem_take] at e
   have:f.getD j 0=f[j]:=by rw [List.getD_eq_getElem?_getD,List.getElem?_eq_getElem hj];rfl
   rw [this] at e
   exact List.pairwise_iff_getElem.1 hnd i j (by omega) hj hi2 e
  rw [qLaB,decide_eq_true (show (j:Int) < (f.length:Int) by omega),decide_eq_true (show (0:Int)≤(j:Int) by omega),up1 (by omega)]
  simp only [cond_true,Int.toNat_natCast,tab_len]
  rw [decide_eq_true hr.1,decide_eq_true hr.2,decide_eq_true hk,tab_get _ hk]
  have ez:onS (f.getD j 0).toNat p (f.take j)=0:=by unfold onS;rw [Int.toNat_of_nonneg hr.1,if_neg hnot]
  rw [ez,wrap_id (by omega) (by omega),tab_set]
  have et:(tab caps.length fun k=>if k=(f.getD j 0).toNat then A (f.getD j 0).toNat+0+p else A k+onS k p (f.take j))=tab caps.length fun t=>A t+onS t p (f.take (j+1)):=by
   refine tab_congr fun k _=>?_
   rw [take_next f 0 hj]
   by_cases c:k=(f.getD j 0).toNat
   ·have:(k:Int)=f.getD j 0:=by omega
    rw [if_pos c,c];unfold onS;rw [if_pos (by rw [Int.toNat_of_nonneg hr.1];simp)];omega
   ·rw [if_neg c]
    have hne:(k:Int)≠f.getD j 0:=by omega
    unfold onS
    by_cases hm:(k:Int)∈f.take j
    ·rw [if_pos hm,if_pos (by simp [hm])]
    ·rw [if_neg hm,if_neg (by simp only [List.mem_append,List.mem_singleton];rintro (h | h);exact hm h;exact hne h)]
  simp only [et,cond_true]
 ·show LaB (n+1) _ _ _ _ _ _ _ _ _ _ _ _=_
  rw [qLaB,decide_eq_false (show ¬ (f.length:Int) < (f.length:Int) by omega),take_all]
  rfl
theorem v48_eq (lim:List Int):v48 caps flows lim ws=some (loadL ws flows):=by
 have hf:=hn.nf
 have hlk:=hn.lk
 have hlw:=hw.len
 have h0:LaD FU flows (flows.length:Int) 0 caps flows lim ws (List.replicate (Int.toNat (ws.length:Int)) 0)=some (loadL ws flows):=by
  rw [Int.toNat_natCast,tab_rep,hlw]
  unfold loadL
  rw [hlw]
  refine at_loop (m:=flows.length) (by omega) (fun n j (s:List Int)=>LaD n flows (flows.length:Int) j caps flows lim ws s) (fun j=>tab caps.length (loadS1 ws (flows.take j))) _ (fun n j hj=>?_) (fun n=>?_)
  ·show LaD (n+1) _ _ _ _ _ _ _ _=LaD n _ _ _ _ _ _ _ _
   have hm:=fget flows hj
   have hp:=part_bd hn hw hm
   have hw1:=wS_bd hn hw hm
   have hpe:Int.tdiv 1000000000 (wS ws (flows.getD j []))=partS ws (flows.getD j []):=rfl
   have e:=l48_16 (ws:=ws) hn hm (p:=partS ws (flows.getD j [])) ⟨by omega,hp.2⟩ flows (flows.length:Int) (j:Int) lim (loadS1 ws (flows.take j)) fun t=>by
    have:=lsum_bdn (g:=fun fl=>onS t (partS ws fl) fl) (c:=1000000000) (m:=8) (by omega) (l:=flows.take j) (by rw [List.length_take];omega) fun f hf=>on_bd hn hw (take_mem hf) t
    exact ⟨this.1,by have:=this.2;unfold loadS1;omega⟩
   rw [qLaD,decide_eq_true (show (j:Int) < (flows.length:Int) by omega),decide_eq_true (show (0:Int)≤(j:Int) by omega),up1 (by omega)]
   simp only [cond_true,Int.toNat_natCast]
   simp only [v52_eq hn hw hm lim,ok_some,val_some,cond_true]
   refine (cond_dec (p:=wS ws (flows.getD j [])≠0) (by omega) _ _).trans ?_
   have et:(tab caps.length fun t=>loadS1 ws (flows.take j) t+onS t (partS ws (flows.getD j [])) (flows.getD j []))=tab caps.length (loadS1 ws (flows.take (j+1))):=by
    refine tab_congr fun t _=>?_
    unfold loadS1
    rw [lsum_take _ flows [] hj]
   rw [hpe,wrap_id (by omega) (by omega),e,ok_some,val_some,cond_true,et]
  ·show LaD (n+1) _ _ _ _ _ _ _ _=_
   rw [qLaD,decide_eq_false (show ¬ (flows.length:Int) < (flows.length:Int) by omega),take_all]
   rfl
 unfold v48
 rw [h0,decide_eq_true (Int.le_refl _),decide_eq_true (show (ws.length:Int)≤((nat_lit 2147483648:Nat):Int) by show (ws.length:Int)≤((2147483648:Nat):Int);omega)]
 rfl
end
def rateAt (caps ws:List Int) (flows:List (List Int)) (f:List Int) (k:Int):Int:=Int.tdiv (partS ws f*caps.getD k.toNat 0*1000000) (loadS1 ws flows k.toNat)
def rateS (caps ws:List Int) (flows:List (List Int)) (f:List Int):Int:=minL (rateAt caps ws flows f) f
def payS (caps ws:List Int) (flows:List (List Int)) (f:List Int):Int:=wS ws f*rateS caps ws flows f
def leastS (caps ws:List Int) (flows:List (List Int)):Int:=minL (payS caps ws flows) flows
def ratesL (caps ws:List Int) (flows:List (List Int)):List (List Int):=flows.map fun f=>[rateS caps ws flows f]
def priceAt (p w:Int):Int:=Int.tdiv (w*1000000000000+p - 1) p
def pricesL (caps ws:List Int) (flows:List (List Int)):List Int:=ws.map (priceAt (leastS caps ws flows))
def netS (flows:List (List Int)):Fl:=flows.map fun f=>[f]
abbrev Cert:=List (List Int)×List Int×Int×Bool
def certS (caps ws:List Int) (flows:List (List Int)):Cert:=
 if leastS caps ws flows=0 then ([],[],0,false)
 else (ratesL caps ws flows,pricesL caps ws flows,(gapS caps (netS flows) (ratesL caps ws flows) (pricesL caps ws flows)).1,decide ((gapS caps (netS flows) (ratesL caps ws flows) (pricesL caps ws flows)).2=0))
theorem getD_map {α β:Type} (g:α→β) (l:List α) (d:α) (e:β) (i:Nat):(l.map g).getD i e=if i < l.length then g (l.getD i d) else e:=by
 by_cases h:i < l.length
 ·rw [if_pos h,List.getD_eq_getElem?_getD,List.getElem?_map,List.getD_eq_getElem?_getD,List.getElem?_eq_getElem h];rfl
 ·rw [if_neg h,List.getD_eq_getElem?_getD,List.getElem?_eq_none (by rw [List.length_map];omega)];rfl
theorem v26_eq (caps lim:List Int) {flows:List (List Int)} (hf:flows.length≤20):v26 caps flows lim=some (netS flows):=by
 have h0:LaJ FU flows (flows.length:Int) 0 caps [] [] []=some (netS flows):=by
  refine at_loop (m:=flows.length) (by omega) (fun n j (s:List (List (List Int)))=>LaJ n flows (flows.length:Int) j caps [] [] s) (fun j=>netS (flows.take j)) _ (fun n j hj=>?_) (fun n=>?_)
  ·show LaJ (n+1) _ _ _ _ _ _ _=LaJ n _ _ _ _ _ _ _
   rw [qLaJ,decide_eq_true (show (j:Int) < (flows.length:Int) by omega),decide_eq_true (show (0:Int)≤(j:Int) by omega),up1 (by omega)]
   simp only [cond_true,Int.toNat_natCast]
   refine (cond_dec (by unfold netS;simp only [List.length_map,List.length_take,List.length_singleton];show _≤2147483648;omega) _ _).trans ?_
   have e:netS (flows.take j)++[[flows.getD j []]]=netS (flows.take (j+1)):=by unfold netS;rw [take_next flows [] hj,List.map_append];rfl
   rw [e]
  ·show LaJ (n+1) _ _ _ _ _ _ _=_
   rw [qLaJ,decide_eq_false (show ¬ (flows.length:Int) < (flows.length:Int) by omega),take_all]
   rfl
 unfold v26
 rw [h0];rfl
section
variable {caps : List Int} {flows : List (List Int)} {ws : List Int} (hn : Nw caps flows) (hw : Wt caps.length flows ws)
include hn hw
theorem rateAt_bd {f:List Int} (hf:f∈flows) {k:Int} (hk:k∈f):0≤rateAt caps ws flows f k∧rateAt caps ws flows f k≤caps.getD k.toNat 0*1000000:=by
 have hp:=part_bd hn hw hf
 have hc:=hn.cp k.toNat
 have hr:=hn.rg f hf k hk
 have hL:=load_ge hn hw hf (t:=k.toNat) (by rw [Int.toNat_of_nonneg hr.1];exact hk)
 unfold rateAt
 generalize partS ws f=p at*
 generalize caps.getD k.toNat 0=c at*
 generalize loadS1 ws flows k.toNat=L at*
 have h0:0≤p*c:=Int.mul_nonneg (by omega) hc.1
 have h1:p*c≤L*c:=Int.mul_le_mul_of_nonneg_right hL hc.1
 rw [Int.tdiv_eq_ediv_of_nonneg (by omega)]
 constructor
 ·exact Int.ediv_nonneg (by omega) (by omega)
 ·refine Int.ediv_le_of_le_mul (by omega) ?_
  have e:c*1000000*L=L*c*1000000:=by rw [Int.mul_comm L c,Int.mul_assoc,Int.mul_assoc,Int.mul_comm 1000000 L]
  omega
theorem rateAt_le {f:List Int} (hf:f∈flows) {k:Int} (hk:k∈f):0≤rateAt caps ws flows f k∧rateAt caps ws flows f k≤1000000000:=by
 have h:=rateAt_bd hn hw hf hk
 have:=hn.cp k.toNat
 omega
theorem rateS_bd {f:List Int} (hf:f∈flows):0≤rateS caps ws flows f∧rateS caps ws flows f≤1000000000:=by
 obtain ⟨k,hk,e⟩:=minL_at (g:=rateAt caps ws flows f) (l:=f) (by have:=hn.h1 f hf;omega)
 unfold rateS
 rw [e]
 exact rateAt_le hn hw hf hk
theorem payS_bd {f:List Int} (hf:f∈flows):0≤payS caps ws flows f∧payS caps ws flows f≤600000000000000:=by
 have h1:=wS_bd hn hw hf
 have h2:=rateS_bd hn hw hf
 unfold payS
 have:=Int.mul_nonneg (show 0≤wS ws f by omega) h2.1
 have h3:wS ws f*rateS caps ws flows f≤600000*1000000000:=Int.mul_le_mul h1.2.1 h2.2 h2.1 (by omega)
 omega
theorem leastS_bd:0≤leastS caps ws flows∧leastS caps ws flows≤600000000000000:=by
 obtain ⟨f,hf,e⟩:=minL_at (g:=payS caps ws flows) (l:=flows) (by have:=hn.f1;omega)
 unfold leastS
 rw [e]
 exact payS_bd hn hw hf
theorem v69_eq {f:List Int} (hf:f∈flows) {k:Int} (hk:k∈f) (lim:List Int):v69 k (partS ws f) caps flows lim ws (loadL ws flows)=some (rateAt caps ws flows f k):=by
 have hr:=hn.rg f hf k hk
 have hlw:=hw.len
 have hlt:k.toNat < ws.length:=by omega
 have hll:(loadL ws flows).length=ws.length:=tab_len _ _
 have hp:=part_bd hn hw hf
 have hc:=hn.cp k.toNat
 have hpos:=load_pos hn hw (used_at hf hk hr.1)
 have hb:=rateAt_le hn hw hf hk
 have h0:0≤partS ws f*caps.getD k.toNat 0:=Int.mul_nonneg (by omega) hc.1
 have h1:partS ws f*caps.getD k.toNat 0≤1000000000*1000:=Int.mul_le_mul hp.2 hc.2 hc.1 (by omega)
 unfold v69
 rw [decide_eq_true hr.1,decide_eq_true hr.2,hll,decide_eq_true (show k < (ws.length:Int) by omega),decide_eq_true hlt,show (loadL ws flows).getD k.toNat 0=loadS1 ws flows k.toNat from tab_get _ hlt]
 simp only [cond_true]
 refine (cond_dec (by omega) _ _).trans ?_
 rw [wrap_id (x:=partS ws f*caps.getD k.toNat 0) (by omega) (by omega),wrap_id (x:=partS ws f*caps.getD k.toNat 0*1000000) (by omega) (by omega)]
 show some (IntKind.wrap IntKind.i64 (rateAt caps ws flows f k))=_
 rw [wrap_id (by omega) (by omega)]
theorem v68_eq {f:List Int} (hf:f∈flows) (lim:List Int):v68 f (partS ws f) caps flows lim ws (loadL ws flows)=some (rateS caps ws flows f):=by
 have hl:=hn.h1 f hf
 cases f with
 | nil=>simp at hl
 | cons a l=>
  have e1:=v69_eq hn hw hf (k:=a) (by simp) lim
  have hll:l.length≤6:=by simp at hl;omega
  have e2:LaH FU (rateAt caps ws flows (a::l) a) l (l.length:Int) 0 (partS ws (a::l)) caps flows lim ws (loadL ws flows)=some (rateS caps ws flows (a::l)):=by
   refine at_loop (m:=l.length) (by omega) (fun n j (s:Int)=>LaH n s l (l.length:Int) j (partS ws (a::l)) caps flows lim ws (loadL ws flows)) (fun j=>(l.take j).foldl (minF (rateAt caps ws flows (a::l))) (rateAt caps ws flows (a::l) a)) _ (fun n j hj=>?_) (fun n=>?_)
   ·show LaH (n+1) _ _ _ _ _ _ _ _ _ _=LaH n _ _ _ _ _ _ _ _ _ _
    have e3:=v69_eq hn hw hf (k:=l.getD j 0) (List.mem_cons_of_mem _ (getD_in hj 0)) lim
    rw [qLaH,decide_eq_true (show (j:Int) < (l.length:Int) by omega),decide_eq_true (show (0:Int)≤(j:Int) by omega),up1 (by omega),foldl_take _ _ l 0 hj]
    simp only [cond_true,Int.toNat_natCast]
    rw [e3];rfl
   ·show LaH (n+1) _ _ _ _ _ _ _ _ _ _=_
    rw [qLaH,decide_eq_false (show ¬ (l.length:Int) < (l.length:Int) by omega),take_all]
    rfl
  have ed:List.drop (Int.toNat 1) (List.take (a::l).length (a::l))=l:=by rw [take_all];rfl
  unfold v68
  rw [ed,show (a::l).getD (Int.toNat 0) 0=a from rfl,e1,ok_some,val_some,e2,decide_eq_true (show (0:Int) < ((a::l).length:Int) by simp only [List.length_cons];omega),decide_eq_true (show Int.toNat 1≤(a::l).length by show 1≤_;simp),decide_eq_true (Nat.le_refl _)]
  rfl
theorem v49_eq {f:List Int} (hf:f∈flows) (lim:List Int):v49 f caps flows lim ws (loadL ws flows)=some (rateS caps ws flows f):=by
 have h1:=wS_bd hn hw hf
 have hp:=part_bd hn hw hf
 unfold v49
 simp only [v52_eq hn hw hf lim,ok_some,val_some,cond_true]
 refine (cond_dec (p:=wS ws f≠0) (by omega) _ _).trans ?_
 have hpe:Int.tdiv 1000000000 (wS ws f)=partS ws f:=rfl
 rw [hpe,wrap_id (by omega) (by omega),v68_eq hn hw hf lim]
 rfl
theorem v51_eq {f:List Int} (hf:f∈flows) (lim:List Int):v51 f caps flows lim ws (loadL ws flows)=some (payS caps ws flows f):=by
 have h:=payS_bd hn hw hf
 unfold v51
 rw [v52_eq hn hw hf lim,v49_eq hn hw hf lim]
 simp only [ok_some,val_some,cond_true]
 show some (IntKind.wrap IntKind.i64 (payS caps ws flows f))=_
 rw [wrap_id (by omega) (by omega)]
theorem v50_eq (lim:List Int):v50 flows caps flows lim ws (loadL ws flows)=some (leastS caps ws flows):=by
 have key:∀ fl:List (List Int),(∀ f∈fl,f∈flows)→1≤fl.length→fl.length≤8→v50 fl caps flows lim ws (loadL ws flows)=some (minL (payS caps ws flows) fl):=by
  intro fl hfl h1 h2
  cases fl with
  | nil=>simp at h1
  | cons a l=>
   have e1:=v51_eq hn hw (hfl a (by simp)) lim
   have hll:l.length≤8:=by simp at h2;omega
   have e2:LaI FU (payS caps ws flows a) l (l.length:Int) 0 caps flows lim ws (loadL ws flows)=some (minL (payS caps ws flows) (a::l)):=by
    refine at_loop (m:=l.length) (by omega) (fun n j (s:Int)=>LaI n s l (l.length:Int) j caps flows lim ws (loadL ws flows)) (fun j=>(l.take j).foldl (minF (payS caps ws flows)) (payS caps ws flows a)) _ (fun n j hj=>?_) (fun n=>?_)
    ·show LaI (n+1) _ _ _ _ _ _ _ _ _=LaI n _ _ _ _ _ _ _ _ _
     have e3:=v51_eq hn hw (hfl (l.getD j []) (List.mem_cons_of_mem _ (getD_in hj []))) lim
     rw [qLaI,decide_eq_true (show (j:Int) < (l.length:Int) by omega),decide_eq_true (show (0:Int)≤(j:Int) by omega),up1 (by omega),foldl_take _ _ l [] hj]
     simp only [cond_true,Int.toNat_natCast]
     rw [e3];rfl
    ·show LaI (n+1) _ _ _ _ _ _ _ _ _=_
     rw [qLaI,decide_eq_false (show ¬ (l.length:Int) < (l.length:Int) by omega),take_all]
     rfl
   have ed:List.drop (Int.toNat 1) (List.take (a::l).length (a::l))=l:=by rw [take_all];rfl
   unfold v50
   rw [ed,show (a::l).getD (Int.toNat 0) []=a from rfl,e1,ok_some,val_some,e2,decide_eq_true (show (0:Int) < ((a::l).length:Int) by simp only [List.length_cons];omega),decide_eq_true (show Int.toNat 1≤(a::l).length by show 1≤_;simp),decide_eq_true (Nat.le_refl _)]
   rfl
 exact key flows (fun _ h=>h) hn.f1 hn.nf
theorem l28_0 (lim:List Int) (a b c:List Int) (d:List (List Int)):Lac FU flows (flows.length:Int) 0 0 0 caps flows lim ws (loadL ws flows) [] a d b=some (ratesL caps ws flows):=by
 have hf:=hn.nf
 refine at_loop (m:=flows.length) (by omega) (fun n j (s:List (List Int))=>Lac n flows (flows.length:Int) j 0 0 caps flows lim ws (loadL ws flows) s a d b) (fun j=>(flows.take j).map fun f=>[rateS caps ws flows f]) _ (fun n j hj=>?_) (fun n=>?_)
 ·show Lac (n+1) _ _ _ _ _ _ _ _ _ _ _ _ _ _=Lac n _ _ _ _ _ _ _ _ _ _ _ _ _ _
  have e:=v49_eq hn hw (fget flows hj) lim
  rw [qLac,decide_eq_true (show (j:Int) < (flows.length:Int) by omega),decide_eq_true (show (0:Int)≤(j:Int) by omega),up1 (by omega)]
  simp only [cond_true,Int.toNat_natCast]
  simp only [e,ok_some,val_some,cond_true]
  refine (cond_dec (by simp only [List.length_map,List.length_take,List.length_singleton];show _≤2147483648;omega) _ _).trans ?_
  rw [take_next flows [] hj,List.map_append]
  rfl
 ·show Lac (n+1) _ _ _ _ _ _ _ _ _ _ _ _ _ _=_
  rw [qLac,decide_eq_false (show ¬ (flows.length:Int) < (flows.length:Int) by omega),take_all]
  rfl
theorem l28_16 (lim:List Int) (x10:List (List Int)) (a:List Int) (d:List (List Int)) (hp:leastS caps ws flows≠0):Laj FU (leastS caps ws flows) (ws.length:Int) 0 0 0 caps flows lim ws (loadL ws flows) x10 [] d a=some (pricesL caps ws flows):=by
 have hl:=hw.len
 have hlk:=hn.lk
 have hb:=leastS_bd hn hw
 refine at_loop (m:=ws.length) (by omega) (fun n j (s:List Int)=>Laj n (leastS caps ws flows) (ws.length:Int) j 0 0 caps flows lim ws (loadL ws flows) x10 s d a) (fun j=>(ws.take j).map (priceAt (leastS caps ws flows))) _ (fun n j hj=>?_) (fun n=>?_)
 ·show Laj (n+1) _ _ _ _ _ _ _ _ _ _ _ _ _ _=Laj n _ _ _ _ _ _ _ _ _ _ _ _ _ _
  have hwb:=hw.bd j
  rw [qLaj,decide_eq_true (show (j:Int) < (ws.length:Int) by omega),decide_eq_true (show (0:Int)≤(j:Int) by omega),up1 (by omega)]
  simp only [cond_true,Int.toNat_natCast]
  rw [decide_eq_true hj]
  simp only [cond_true]
  refine (cond_dec hp _ _).trans ?_
  refine (cond_dec (by simp only [List.length_map,List.length_take,List.length_singleton];show _≤2147483648;omega) _ _).trans ?_
  have hq:0≤priceAt (leastS caps ws flows) (ws.getD j 0)∧priceAt (leastS caps ws flows) (ws.getD j 0)≤100000000000000000+600000000000000:=by
   unfold priceAt
   rw [Int.tdiv_eq_ediv_of_nonneg (by omega)]
   exact ⟨Int.ediv_nonneg (by omega) (by omega),Int.le_trans (Int.ediv_le_self _ (by omega)) (by omega)⟩
  rw [take_next ws 0 hj,List.map_append,wrap_id (x:=ws.getD j 0*1000000000000) (by omega) (by omega),wrap_id (x:=ws.getD j 0*1000000000000+leastS caps ws flows) (by omega) (by omega),wrap_id (x:=ws.getD j 0*1000000000000+leastS caps ws flows - 1) (by omega) (by omega)]
  show Laj n _ _ _ _ _ _ _ _ _ _ _ (_++[IntKind.wrap IntKind.i64 (priceAt (leastS caps ws flows) (ws.getD j 0))]) _ _=_
  rw [wrap_id (by omega) (by omega)]
  rfl
 ·show Laj (n+1) _ _ _ _ _ _ _ _ _ _ _ _ _ _=_
  rw [qLaj,decide_eq_false (show ¬ (ws.length:Int) < (ws.length:Int) by omega),take_all]
  rfl
theorem few_cert (prices:List Int) (hp:prices.length≤20):Few caps (netS flows) (ratesL caps ws flows) prices:=by
 have hf:=hn.nf
 have hlk:=hn.lk
 refine ⟨by omega,by unfold netS;rw [List.length_map];omega,by unfold ratesL;rw [List.length_map];omega,hp,fun i=>?_,fun i k=>?_,fun i=>?_⟩
 ·unfold netS;rw [getD_map _ flows [] []];split<;>simp
 ·unfold netS;rw [getD_map _ flows [] []]
  split
  ·rename_i hi
   have:=(hn.h1 _ (fget flows hi)).2
   cases k with
   | zero=>show (flows.getD i []).length≤20;omega
   | succ k=>show (([]:List (List Int)).getD k []).length≤20;simp
  ·simp
 ·unfold ratesL;rw [getD_map _ flows [] []];split<;>simp
theorem v28_eq (lim:List Int):v28 caps flows lim ws (loadL ws flows)=some (certS caps ws flows):=by
 have hl:=hw.len
 have hlk:=hn.lk
 unfold v28 certS
 rw [l28_0 hn hw lim [] [] [] [],v50_eq hn hw lim]
 simp only [ok_some,val_some,cond_true]
 by_cases hp:leastS caps ws flows=0
 ·rw [if_pos hp,hp];rfl
 ·rw [if_neg hp,show (leastS caps ws flows==0)=false by simp [hp],l28_16 hn hw lim _ [] [] hp,v26_eq caps lim (by have:=hn.nf;omega)]
  simp only [ok_some,val_some,cond_true,cond_false]
  rw [v21_eq (few_cert hn hw _ (by unfold pricesL;rw [List.length_map];omega))]
  rfl
end
def usedB (flows:List (List Int)) (t:Nat):Bool:=flows.any fun f=>decide ((t:Int)∈f)
theorem used_iff {flows:List (List Int)} {t:Nat}:usedB flows t=true↔Used flows t:=by
 unfold usedB Used
 simp
def startW (n:Nat) (flows:List (List Int)):List Int:=tab n fun t=>cond (usedB flows t) 1000 0
def fineS (caps:List Int) (flows:List (List Int)):Bool:=flows.all fun f=>f.all fun k=>decide (caps.getD k.toNat 0 > 0)
theorem getD_out {l:List Int} {t:Nat} (h:l.length≤t):l.getD t 0=0:=by rw [List.getD_eq_getElem?_getD,List.getElem?_eq_none h];rfl
section
variable {caps : List Int} {flows : List (List Int)} {ws : List Int} (hn : Nw caps flows)
include hn
theorem used_in {t:Nat} (h:Used flows t):t < caps.length:=by
 obtain ⟨f,hf,hk⟩:=h
 have:=hn.rg f hf _ hk
 omega
theorem fine_iff:fineS caps flows=true↔Fit caps flows:=by
 unfold fineS Fit
 simp only [List.all_eq_true,decide_eq_true_eq]
 constructor
 ·rintro h t ⟨f,hf,hk⟩
  have:=h f hf _ hk
  rw [Int.toNat_natCast] at this
  omega
 ·intro h f hf k hk
  have:=h k.toNat (used_at hf hk (hn.rg f hf k hk).1)
  omega
theorem start_wt:Wt caps.length flows (startW caps.length flows):=by
 have hin:∀ t,(startW caps.length flows).getD t 0=cond (usedB flows t) 1000 0:=by
  intro t
  by_cases h:t < caps.length
  ·exact tab_get _ h
  ·rw [getD_out (by unfold startW;rw [tab_len];omega)]
   cases hu:usedB flows t with
   | false=>rfl
   | true=>exact absurd (used_in hn (used_iff.1 hu)) h
 refine ⟨tab_len _ _,fun t=>?_,fun t=>?_⟩
 ·rw [hin];cases usedB flows t<;>simp
 ·rw [hin,← used_iff];cases usedB flows t<;>simp
theorem l27_16 {f:List Int} (hf:f∈flows) (b:Bool) (A:Nat→Int) (x1:List (List Int)) (x2 x3:Int) (x8:List (List Int)) (x9 x10:List Int) (x11:List (List Int)) (x12:List Int) :
  Lan FU b x1 x2 x3 f (f.length:Int) 0 caps x8 x9 x10 x11 x12 (tab caps.length A)=some (b&&f.all fun k=>decide (caps.getD k.toNat 0 > 0),tab caps.length fun t=>if (t:Int)∈f then 1000 else A t):=by
 have hl:=hn.h1 f hf
 have e0:(b,tab caps.length A)=(b&&(f.take 0).all fun k=>decide (caps.getD k.toNat 0 > 0),tab caps.length fun t=>if (t:Int)∈f.take 0 then 1000 else A t):=by simp
 have h:=at_loop (m:=f.length) (by omega) (fun n j (s:Bool×List Int)=>Lan n s.1 x1 x2 x3 f (f.length:Int) j caps x8 x9 x10 x11 x12 s.2) (fun j=>(b&&(f.take j).all fun k=>decide (caps.getD k.toNat 0 > 0),tab caps.length fun t=>if (t:Int)∈f.take j then 1000 else A t)) (b&&f.all fun k=>decide (caps.getD k.toNat 0 > 0),tab caps.length fun t=>if (t:Int)∈f then 1000 else A t) (fun n j hj=>?_) (fun n=>?_)
 ·rw [← e0] at h;exact h
 ·show Lan (n+1) _ _ _ _ _ _ _ _ _ _ _ _ _ _=Lan n _ _ _ _ _ _ _ _ _ _ _ _ _ _
  have hr:=hn.rg f hf _ (getD_in hj 0)
  have hk:(f.getD j 0).toNat < caps.length:=by omega
  rw [qLan,decide_eq_true (show (j:Int) < (f.length:Int) by omega),decide_eq_true (show (0:Int)≤(j:Int) by omega),up1 (by omega)]
  simp only [cond_true,Int.toNat_natCast,tab_len]
  rw [decide_eq_true hr.1,decide_eq_true hr.2,decide_eq_true hk,tab_set]
  simp only [cond_true]
  have et:(tab caps.length fun k=>if k=(f.getD j 0).toNat then 1000 else if (k:Int)∈f.take j then 1000 else A k)=tab caps.length fun t=>if (t:Int)∈f.take (j+1) then 1000 else A t:=by
   refine tab_congr fun k _=>?_
   rw [take_next f 0 hj]
   by_cases c:k=(f.getD j 0).toNat
   ·rw [if_pos c,if_pos (by rw [c,Int.toNat_of_nonneg hr.1];simp)]
   ·rw [if_neg c]
    have hne:(k:Int)≠f.getD j 0:=by omega
    by_cases hm:(k:Int)∈f.take j
    ·rw [if_pos hm,if_pos (by simp [hm])]
    ·rw [if_neg hm,if_neg (by simp only [List.mem_append,List.mem_singleton];rintro (h | h);exact hm h;exact hne h)]
  rw [et,take_next f 0 hj,List.all_append]
  cases b<;>cases hq:(f.take j).all (fun k=>decide (caps.getD k.toNat 0 > 0))<;>simp
 ·show Lan (n+1) _ _ _ _ _ _ _ _ _ _ _ _ _ _=_
  rw [qLan,decide_eq_false (show ¬ (f.length:Int) < (f.length:Int) by omega),take_all]
  rfl
theorem v27_eq (lim:List Int):v27 caps flows lim=some (fineS caps flows,startW caps.length flows,loadL (startW caps.length flows) flows):=by
 have hf:=hn.nf
 have hlk:=hn.lk
 have e0:(true,tab caps.length fun _=>0)=((flows.take 0).all (fun f=>f.all fun k=>decide (caps.getD k.toNat 0 > 0)),tab caps.length fun t=>cond (usedB (flows.take 0) t) 1000 0):=by simp [usedB]
 have h0:Lag FU true flows (flows.length:Int) 0 caps flows lim caps flows lim (List.replicate (Int.toNat (caps.length:Int)) 0)=some (fineS caps flows,startW caps.length flows):=by
  rw [Int.toNat_natCast,tab_rep]
  have h:=at_loop (m:=flows.length) (by omega) (fun n j (s:Bool×List Int)=>Lag n s.1 flows (flows.length:Int) j caps flows lim caps flows lim s.2) (fun j=>((flows.take j).all (fun f=>f.all fun k=>decide (caps.getD k.toNat 0 > 0)),tab caps.length fun t=>cond (usedB (flows.take j) t) 1000 0)) (fineS caps flows,startW caps.length flows) (fun n j hj=>?_) (fun n=>?_)
  ·rw [← e0] at h;exact h
  ·show Lag (n+1) _ _ _ _ _ _ _ _ _ _ _=Lag n _ _ _ _ _ _ _ _ _ _ _
   have e:=l27_16 hn (fget flows hj) ((flows.take j).all (fun f=>f.all fun k=>decide (caps.getD k.toNat 0 > 0))) (fun t=>cond (usedB (flows.take j) t) 1000 0) flows (flows.length:Int) (j:Int) flows lim caps flows lim
   rw [qLag,decide_eq_true (show (j:Int) < (flows.length:Int) by omega),decide_eq_true (show (0:Int)≤(j:Int) by omega),up1 (by omega)]
   simp only [cond_true,Int.toNat_natCast]
   rw [e]
   simp only [ok_some,val_some,cond_true]
   have et:(tab caps.length fun t=>if (t:Int)∈flows.getD j [] then 1000 else cond (usedB (flows.take j) t) 1000 0)=tab caps.length fun t=>cond (usedB (flows.take (j+1)) t) 1000 0:=by
    refine tab_congr fun t _=>?_
    unfold usedB
    rw [take_next flows [] hj,List.any_append]
    by_cases c:(t:Int)∈flows.getD j []
    ·rw [if_pos c];simp only [List.any_cons,List.any_nil,decide_eq_true c];simp
    ·rw [if_neg c];simp only [List.any_cons,List.any_nil,decide_eq_false c];simp
   rw [et,take_next flows [] hj,List.all_append]
   simp
  ·show Lag (n+1) _ _ _ _ _ _ _ _ _ _ _=_
   rw [qLag,decide_eq_false (show ¬ (flows.length:Int) < (flows.length:Int) by omega),take_all]
   rfl
 unfold v27
 rw [h0,decide_eq_true (Int.le_refl _),decide_eq_true (show (caps.length:Int)≤((nat_lit 2147483648:Nat):Int) by show (caps.length:Int)≤((2147483648:Nat):Int);omega)]
 simp only [ok_some,val_some,cond_true]
 rw [v48_eq hn (start_wt hn) lim]
 rfl
end
section
variable (caps : List Int) (flows : List (List Int)) (ws : List Int)
def maxF (m:Int) (t:Nat):Int:=
 if ws.getD t 0 > 0 then (if m < 0 then (t:Int) else if loadS1 ws flows t*caps.getD m.toNat 0 > loadS1 ws flows m.toNat*caps.getD t 0 then (t:Int) else m) else m
def maxN:Nat→Int
 | 0=>-1
 | t+1=>maxF caps flows ws (maxN t) t
def mS:Nat:=(maxN caps flows ws caps.length).toNat
def nextAt (t:Nat):Int:=Int.tdiv (ws.getD t 0*(loadS1 ws flows t*caps.getD (mS caps flows ws) 0+caps.getD t 0*loadS1 ws flows (mS caps flows ws))) (2*caps.getD t 0*loadS1 ws flows (mS caps flows ws))
def nextU (t:Nat):Int:=if ws.getD t 0=0 then 0 else max 1 (nextAt caps flows ws t)
def nextL:List Int:=tab ws.length (nextU caps flows ws)
end
def maxL:List Int→Int
 | []=>0
 | x::l=>l.foldl max x
def dbl (l:List Int):List Int:=tab l.length fun t=>l.getD t 0*2
def nextS (caps:List Int) (flows:List (List Int)) (ws:List Int):List Int:=if maxL (nextL caps flows ws) < 50000 then dbl (nextL caps flows ws) else nextL caps flows ws
theorem foldl_max:∀ (l:List Int) (o:Int),o≤l.foldl max o∧∀ x∈l,x≤l.foldl max o
 | [],o=>⟨Int.le_refl _,fun x hx=>nomatch hx⟩
 | y::l,o=>by
  obtain ⟨h1,h2⟩:=foldl_max l (max o y)
  refine ⟨by simp only [List.foldl_cons];omega,fun x hx=>?_⟩
  simp only [List.foldl_cons]
  rcases List.mem_cons.1 hx with rfl | hx
  ·omega
  ·exact h2 x hx
theorem maxL_ge:∀ {l:List Int} {x:Int},x∈l→x≤maxL l
 | y::l,x,hx=>by
  obtain ⟨h1,h2⟩:=foldl_max l y
  rcases List.mem_cons.1 hx with rfl | hx
  ·exact h1
  ·exact h2 x hx
theorem v53_eq {l:List Int} (h0:1≤l.length) (h1:l.length≤20):v53 l=some (maxL l):=by
 cases l with
 | nil=>simp at h0
 | cons a l=>
  have hll:l.length≤20:=by simp at h1;omega
  have key:∀ (k n i:Nat) (s:Int),i+k=l.length→k < n→LaS n (a::l) s ((i+1:Nat):Int)=some ((l.drop i).foldl max s):=by
   intro k
   induction k with
   | zero=>
    intro n i s h1 h2
    cases n with
    | zero=>omega
    | succ n=>
     rw [qLaS,decide_eq_false (show ¬ ((i+1:Nat):Int) < ((a::l).length:Int) by simp only [List.length_cons];omega),List.drop_eq_nil_of_le (by omega)]
     rfl
   | succ k ih=>
    intro n i s h1 h2
    cases n with
    | zero=>omega
    | succ n=>
     rw [qLaS,decide_eq_true (show ((i+1:Nat):Int) < ((a::l).length:Int) by simp only [List.length_cons];omega),decide_eq_true (show (0:Int)≤((i+1:Nat):Int) by omega),up1 (by omega)]
     simp only [cond_true,Int.toNat_natCast]
     rw [ih n (i+1) _ (by omega) (by omega),getD_drop (i:=i) (by omega) 0]
     rfl
  have h:=key l.length FU 0 a (by omega) (by unfold FU;omega)
  unfold v53
  rw [show (a::l).getD (Int.toNat 0) 0=a from rfl,show (1:Int)=((0+1:Nat):Int) from rfl,h,decide_eq_false (show ¬ ((a::l).length:Int) < ((0+1:Nat):Int) by simp only [List.length_cons];omega),decide_eq_true (show (0:Int) < ((a::l).length:Int) by simp only [List.length_cons];omega)]
  rfl
theorem cross {a b c p q r:Int} (hq:1≤q) (hp:0≤p) (hr:0≤r) (h1:a*q≤b*p) (h2:b*r≤c*q):a*r≤c*p:=by
 have e1:a*q*r≤b*p*r:=Int.mul_le_mul_of_nonneg_right h1 hr
 have e2:b*r*p≤c*q*p:=Int.mul_le_mul_of_nonneg_right h2 hp
 have e3:a*r*q≤c*p*q:=by
  have t1:a*q*r=a*r*q:=by rw [Int.mul_assoc,Int.mul_comm q r,← Int.mul_assoc]
  have t2:b*p*r=b*r*p:=by rw [Int.mul_assoc,Int.mul_comm p r,← Int.mul_assoc]
  have t3:c*q*p=c*p*q:=by rw [Int.mul_assoc,Int.mul_comm q p,← Int.mul_assoc]
  omega
 exact Int.le_of_mul_le_mul_right e3 (by omega)
section
variable {caps : List Int} {flows : List (List Int)} {ws : List Int} (hn : Nw caps flows) (hw : Wt caps.length flows ws) (hf : Fit caps flows)
include hn hw
theorem pos_used {t:Nat}:ws.getD t 0 > 0↔Used flows t:=⟨fun h=>(hw.us t).1 (by omega),fun h=>by have:=(hw.us t).2 h;omega⟩
include hf
theorem maxN_ok:∀ j,(maxN caps flows ws j=-1∧∀ t,t < j→¬ Used flows t)∨∃ m:Nat,maxN caps flows ws j=(m:Int)∧m < j∧Used flows m∧∀ t,t < j→Used flows t→loadS1 ws flows t*caps.getD m 0≤loadS1 ws flows m*caps.getD t 0
 | 0=>.inl ⟨rfl,fun t h=>by omega⟩
 | j+1=>by
  have e:maxN caps flows ws (j+1)=maxF caps flows ws (maxN caps flows ws j) j:=rfl
  have hu:=pos_used hn hw (t:=j)
  by_cases c:Used flows j
  ·rcases maxN_ok j with ⟨h1,h2⟩ | ⟨m,h1,h2,h3,h4⟩
   ·refine .inr ⟨j,?_,by omega,c,fun t ht hut=>?_⟩
    ·rw [e,h1];unfold maxF;rw [if_pos (hu.2 c),if_pos (by omega)]
    ·by_cases c2:t=j
     ·rw [c2];exact Int.le_refl _
     ·exact absurd hut (h2 t (by omega))
   ·rw [e,h1]
    unfold maxF
    rw [if_pos (hu.2 c),if_neg (by omega),Int.toNat_natCast]
    by_cases c2:loadS1 ws flows j*caps.getD m 0 > loadS1 ws flows m*caps.getD j 0
    ·rw [if_pos c2]
     refine .inr ⟨j,rfl,by omega,c,fun t ht hut=>?_⟩
     by_cases c3:t=j
     ·rw [c3];exact Int.le_refl _
     ·exact cross (q:=caps.getD m 0) (b:=loadS1 ws flows m) (hf m h3) (hn.cp t).1 (hn.cp j).1 (h4 t (by omega) hut) (by omega)
    ·rw [if_neg c2]
     refine .inr ⟨m,rfl,by omega,h3,fun t ht hut=>?_⟩
     by_cases c3:t=j
     ·rw [c3];omega
     ·exact h4 t (by omega) hut
  ·have hz:¬ ws.getD j 0 > 0:=fun h=>c (hu.1 h)
   have e2:maxN caps flows ws (j+1)=maxN caps flows ws j:=by rw [e];unfold maxF;rw [if_neg hz]
   rw [e2]
   rcases maxN_ok j with ⟨h1,h2⟩ | ⟨m,h1,h2,h3,h4⟩
   ·refine .inl ⟨h1,fun t ht hut=>?_⟩
    by_cases c3:t=j
    ·exact c (c3▸hut)
    ·exact h2 t (by omega) hut
   ·refine .inr ⟨m,h1,by omega,h3,fun t ht hut=>?_⟩
    by_cases c3:t=j
    ·exact absurd (c3▸hut) c
    ·exact h4 t (by omega) hut
theorem mS_ok:maxN caps flows ws caps.length=(mS caps flows ws:Int)∧mS caps flows ws < caps.length∧Used flows (mS caps flows ws)∧∀ t,Used flows t→loadS1 ws flows t*caps.getD (mS caps flows ws) 0≤loadS1 ws flows (mS caps flows ws)*caps.getD t 0:=by
 rcases maxN_ok hn hw hf caps.length with ⟨h1,h2⟩ | ⟨m,h1,h2,h3,h4⟩
 ·exfalso
  obtain ⟨f,hfm⟩:=List.exists_mem_of_length_pos (show 0 < flows.length by have:=hn.f1;omega)
  obtain ⟨k,hk⟩:=List.exists_mem_of_length_pos (show 0 < f.length by have:=hn.h1 f hfm;omega)
  have hr:=hn.rg f hfm k hk
  exact h2 k.toNat (by omega) (used_at hfm hk hr.1)
 ·have e:mS caps flows ws=m:=by unfold mS;rw [h1];rfl
  rw [e]
  exact ⟨h1,h2,h3,fun t ht=>h4 t (used_in hn ht) ht⟩
theorem quot_bd {t:Nat} (ht:Used flows t):0≤nextAt caps flows ws t∧nextAt caps flows ws t≤ws.getD t 0∧0≤loadS1 ws flows t*caps.getD (mS caps flows ws) 0∧loadS1 ws flows t*caps.getD (mS caps flows ws) 0≤8000000000000
  ∧ 1≤caps.getD t 0*loadS1 ws flows (mS caps flows ws)∧caps.getD t 0*loadS1 ws flows (mS caps flows ws)≤8000000000000
  ∧ 0≤ws.getD t 0*(loadS1 ws flows t*caps.getD (mS caps flows ws) 0+caps.getD t 0*loadS1 ws flows (mS caps flows ws))∧ws.getD t 0*(loadS1 ws flows t*caps.getD (mS caps flows ws) 0+caps.getD t 0*loadS1 ws flows (mS caps flows ws))≤1600000000000000000:=by
 obtain ⟨h1,h2,h3,h4⟩:=mS_ok hn hw hf
 have hL:=load_bd1 hn hw t
 have hLm:=load_bd1 hn hw (mS caps flows ws)
 have hpm:=load_pos hn hw h3
 have hc:=hf t ht
 have hc2:=hn.cp t
 have hcm:=hn.cp (mS caps flows ws)
 have hwt:=hw.bd t
 have h5:=h4 t ht
 unfold nextAt
 generalize loadS1 ws flows t=L at*
 generalize loadS1 ws flows (mS caps flows ws)=M at*
 generalize caps.getD (mS caps flows ws) 0=cm at*
 generalize caps.getD t 0=c at*
 generalize ws.getD t 0=w at*
 have a1:0≤L*cm:=Int.mul_nonneg hL.1 hcm.1
 have a2:L*cm≤8000000000*1000:=Int.mul_le_mul hL.2 hcm.2 hcm.1 (by omega)
 have b1:1*1≤c*M:=Int.mul_le_mul hc (by omega) (by omega) (by omega)
 have b2:c*M≤1000*8000000000:=Int.mul_le_mul hc2.2 hLm.2 hLm.1 (by omega)
 have b3:M*c=c*M:=Int.mul_comm _ _
 have b4:2*c*M=2*(c*M):=Int.mul_assoc _ _ _
 rw [b4]
 generalize c*M=q at*
 generalize L*cm=p at*
 have n0:0≤w*(p+q):=Int.mul_nonneg hwt.1 (by omega)
 have n1:w*(p+q)≤100000*16000000000000:=Int.mul_le_mul hwt.2 (by omega) (by omega) (by omega)
 have n2:w*(p+q)≤w*(2*q):=Int.mul_le_mul_of_nonneg_left (by omega) hwt.1
 refine ⟨?_,?_,a1,by omega,by omega,by omega,n0,by omega⟩
 ·rw [Int.tdiv_eq_ediv_of_nonneg n0];exact Int.ediv_nonneg n0 (by omega)
 ·rw [Int.tdiv_eq_ediv_of_nonneg n0];exact Int.ediv_le_of_le_mul (by omega) n2
theorem nextU_bd (t:Nat):0≤nextU caps flows ws t∧nextU caps flows ws t≤100000∧(1≤nextU caps flows ws t↔Used flows t):=by
 have hwt:=hw.bd t
 have hu:=hw.us t
 unfold nextU
 by_cases c:ws.getD t 0=0
 ·rw [if_pos c,← hu,c];omega
 ·rw [if_neg c]
  have c2:Used flows t:=hu.1 (by omega)
  have:=quot_bd hn hw hf c2
  refine ⟨by omega,by omega,fun _=>c2,fun _=>by omega⟩
theorem l29_0 (lim:List Int):Laa FU (-1) (ws.length:Int) 0 caps flows lim ws (loadL ws flows)=some (mS caps flows ws:Int):=by
 have hl:=hw.len
 have hlk:=hn.lk
 have hm:=mS_ok hn hw hf
 have hld:(loadL ws flows).length=ws.length:=tab_len _ _
 refine at_loop (m:=ws.length) (by omega) (fun n j (s:Int)=>Laa n s (ws.length:Int) j caps flows lim ws (loadL ws flows)) (maxN caps flows ws) _ (fun n j hj=>?_) (fun n=>?_)
 ·show Laa (n+1) _ _ _ _ _ _ _ _=Laa n _ _ _ _ _ _ _ _
  have e:maxN caps flows ws (j+1)=maxF caps flows ws (maxN caps flows ws j) j:=rfl
  have hu:=pos_used hn hw (t:=j)
  have hLj:(loadL ws flows).getD j 0=loadS1 ws flows j:=tab_get _ hj
  rw [qLaa,decide_eq_true (show (j:Int) < (ws.length:Int) by omega),decide_eq_true (show (0:Int)≤(j:Int) by omega),up1 (by omega)]
  simp only [cond_true,Int.toNat_natCast,hLj,hld]
  rw [decide_eq_true hj,cond_true,e]
  unfold maxF
  by_cases c:ws.getD j 0 > 0
  ·rw [if_pos c,decide_eq_true c]
   rcases maxN_ok hn hw hf j with ⟨h1,h2⟩ | ⟨m,h1,h2,h3,h4⟩
   ·rw [h1];rfl
   ·have hb1:=load_bd1 hn hw j
    have hb2:=load_bd1 hn hw m
    have hc1:=hn.cp j
    have hc2:=hn.cp m
    have hLm:(loadL ws flows).getD m 0=loadS1 ws flows m:=tab_get _ (by omega)
    have a1:0≤loadS1 ws flows j*caps.getD m 0:=Int.mul_nonneg hb1.1 hc2.1
    have a2:loadS1 ws flows j*caps.getD m 0≤8000000000*1000:=Int.mul_le_mul hb1.2 hc2.2 hc2.1 (by omega)
    have a3:0≤loadS1 ws flows m*caps.getD j 0:=Int.mul_nonneg hb2.1 hc1.1
    have a4:loadS1 ws flows m*caps.getD j 0≤8000000000*1000:=Int.mul_le_mul hb2.2 hc1.2 hc1.1 (by omega)
    rw [h1,if_neg (show ¬ (m:Int) < 0 by omega),decide_eq_false (show ¬ (m:Int) < 0 by omega),decide_eq_true (show (0:Int)≤(m:Int) by omega),decide_eq_true (show (j:Int) < (ws.length:Int) by omega),decide_eq_true (show (m:Int) < (caps.length:Int) by omega),decide_eq_true (show (m:Int) < (ws.length:Int) by omega),decide_eq_true (show (j:Int) < (caps.length:Int) by omega)]
    simp only [cond_true,cond_false,Int.toNat_natCast,hLm]
    rw [decide_eq_true (show m < ws.length by omega),wrap_id (by omega) (by omega),wrap_id (by omega) (by omega)]
    by_cases c2:loadS1 ws flows j*caps.getD m 0 > loadS1 ws flows m*caps.getD j 0
    ·rw [if_pos c2,decide_eq_true c2];rfl
    ·rw [if_neg c2,decide_eq_false c2];rfl
  ·rw [if_neg c,decide_eq_false c];rfl
 ·show Laa (n+1) _ _ _ _ _ _ _ _=_
  rw [qLaa,decide_eq_false (show ¬ (ws.length:Int) < (ws.length:Int) by omega),hl,hm.1]
  rfl
theorem l29_16 (lim:List Int):Lab FU (caps.getD (mS caps flows ws) 0) (loadS1 ws flows (mS caps flows ws)) (ws.length:Int) 0 caps flows lim ws (loadL ws flows) (List.replicate ws.length 0)=some (nextL caps flows ws):=by
 have hl:=hw.len
 have hlk:=hn.lk
 have hld:(loadL ws flows).length=ws.length:=tab_len _ _
 rw [tab_rep]
 have e0:(tab ws.length fun _=>0)=tab ws.length fun t=>if t < 0 then nextU caps flows ws t else 0:=tab_congr fun t _=>by rw [if_neg (by omega)]
 rw [e0]
 refine at_loop (m:=ws.length) (by omega) (fun n j (s:List Int)=>Lab n (caps.getD (mS caps flows ws) 0) (loadS1 ws flows (mS caps flows ws)) (ws.length:Int) j caps flows lim ws (loadL ws flows) s) (fun j=>tab ws.length fun t=>if t < j then nextU caps flows ws t else 0) _ (fun n j hj=>?_) (fun n=>?_)
 ·show Lab (n+1) _ _ _ _ _ _ _ _ _ _=Lab n _ _ _ _ _ _ _ _ _ _
  have hLj:(loadL ws flows).getD j 0=loadS1 ws flows j:=tab_get _ hj
  rw [qLab,decide_eq_true (show (j:Int) < (ws.length:Int) by omega),decide_eq_true (show (0:Int)≤(j:Int) by omega),up1 (by omega)]
  simp only [cond_true,Int.toNat_natCast,hLj,hld,tab_len]
  rw [decide_eq_true hj,decide_eq_true (show (j:Int) < (ws.length:Int) by omega),decide_eq_true (show (j:Int) < (caps.length:Int) by omega)]
  simp only [cond_true]
  have hnx:nextU caps flows ws j=if ws.getD j 0=0 then 0 else max 1 (nextAt caps flows ws j):=rfl
  by_cases c:ws.getD j 0=0
  ·rw [c]
   have et:(tab ws.length fun t=>if t < j then nextU caps flows ws t else 0)=tab ws.length fun t=>if t < j+1 then nextU caps flows ws t else 0:=by
    refine tab_congr fun t _=>?_
    by_cases c2:t=j
    ·rw [c2,if_neg (by omega),if_pos (by omega),hnx,if_pos c]
    ·by_cases c3:t < j
     ·rw [if_pos c3,if_pos (by omega)]
     ·rw [if_neg c3,if_neg (by omega)]
   rw [et];rfl
  ·have c2:Used flows j:=(hw.us j).1 (by have:=hw.bd j;omega)
   have hc2:=hn.cp j
   obtain ⟨q1,q2,q3,q4,q5,q6,q7,q8⟩:=quot_bd hn hw hf c2
   have hb4:2*caps.getD j 0*loadS1 ws flows (mS caps flows ws)=2*(caps.getD j 0*loadS1 ws flows (mS caps flows ws)):=Int.mul_assoc _ _ _
   have hwj:=hw.bd j
   have w1:=wrap_id (x:=2*caps.getD j 0) (by omega) (by omega)
   have w2:=wrap_id (x:=2*caps.getD j 0*loadS1 ws flows (mS caps flows ws)) (by omega) (by omega)
   rw [show (ws.getD j 0==0)=false by simpa using c,cond_false]
   refine (cond_dec (by rw [w1,w2];omega) _ _).trans ?_
   rw [w1,w2]
   rw [wrap_id (x:=loadS1 ws flows j*caps.getD (mS caps flows ws) 0) (by omega) (by omega),wrap_id (x:=caps.getD j 0*loadS1 ws flows (mS caps flows ws)) (by omega) (by omega),wrap_id (x:=loadS1 ws flows j*caps.getD (mS caps flows ws) 0+caps.getD j 0*loadS1 ws flows (mS caps flows ws)) (by omega) (by omega),
    wrap_id (x:=ws.getD j 0*(loadS1 ws flows j*caps.getD (mS caps flows ws) 0+caps.getD j 0*loadS1 ws flows (mS caps flows ws))) (by omega) (by omega)]
   rw [show IntKind.wrap IntKind.i64 (Int.tdiv (ws.getD j 0*(loadS1 ws flows j*caps.getD (mS caps flows ws) 0+caps.getD j 0*loadS1 ws flows (mS caps flows ws))) (2*caps.getD j 0*loadS1 ws flows (mS caps flows ws)))=nextAt caps flows ws j from wrap_id (x:=nextAt caps flows ws j) (by omega) (by omega),tab_set]
   have et:(tab ws.length fun k=>if k=j then max 1 (nextAt caps flows ws j) else if k < j then nextU caps flows ws k else 0)=tab ws.length fun t=>if t < j+1 then nextU caps flows ws t else 0:=by
    refine tab_congr fun t _=>?_
    by_cases c2:t=j
    ·rw [if_pos c2,c2,if_pos (by omega),hnx,if_neg c]
    ·rw [if_neg c2]
     by_cases c3:t < j
     ·rw [if_pos c3,if_pos (by omega)]
     ·rw [if_neg c3,if_neg (by omega)]
   rw [et]
 ·show Lab (n+1) _ _ _ _ _ _ _ _ _ _=_
  rw [qLab,decide_eq_false (show ¬ (ws.length:Int) < (ws.length:Int) by omega),cond_false]
  unfold nextL
  exact congrArg some (tab_congr fun t ht=>if_pos ht)
theorem nextL_get (t:Nat):(nextL caps flows ws).getD t 0=nextU caps flows ws t:=by
 have hl:=hw.len
 by_cases h:t < ws.length
 ·exact tab_get _ h
 ·have:ws.getD t 0=0:=getD_out (by omega)
  unfold nextU
  rw [if_pos this,getD_out (by unfold nextL;rw [tab_len];omega)]
theorem next_wt:Wt caps.length flows (nextS caps flows ws):=by
 have hl:=hw.len
 have hll:(nextL caps flows ws).length=ws.length:=tab_len _ _
 unfold nextS
 by_cases c:maxL (nextL caps flows ws) < 50000
 ·rw [if_pos c]
  have hg:∀ t,(dbl (nextL caps flows ws)).getD t 0=nextU caps flows ws t*2:=fun t=>by
   by_cases h:t < ws.length
   ·unfold dbl;rw [tab_get _ (by omega),nextL_get hn hw hf]
   ·have:ws.getD t 0=0:=getD_out (by omega)
    rw [getD_out (by unfold dbl;rw [tab_len];omega)]
    unfold nextU
    rw [if_pos this];rfl
  refine ⟨by unfold dbl;rw [tab_len];omega,fun t=>?_,fun t=>?_⟩
  ·rw [hg]
   have h1:=nextU_bd hn hw hf t
   by_cases h:t < ws.length
   ·have:(nextL caps flows ws).getD t 0∈nextL caps flows ws:=getD_in (by omega) 0
    have:=maxL_ge this
    rw [nextL_get hn hw hf] at this
    omega
   ·have:ws.getD t 0=0:=getD_out (by omega)
    unfold nextU
    rw [if_pos this];omega
  ·rw [hg]
   have h1:=nextU_bd hn hw hf t
   rw [← h1.2.2]
   omega
 ·rw [if_neg c]
  refine ⟨by omega,fun t=>?_,fun t=>?_⟩
  ·rw [nextL_get hn hw hf];have:=nextU_bd hn hw hf t;omega
  ·rw [nextL_get hn hw hf];exact (nextU_bd hn hw hf t).2.2
end
theorem l48_old:∀ (n:Nat) (x0:Int) (x1:List (List Int)) (x2 x3:Int) (x4:List Int) (x5 x6:Int) (x7:List Int) (x8:List (List Int)) (x9 x10 o x12:List Int),LaT n x0 x1 x2 x3 x4 x5 x6 x7 x8 x9 x10 o x12=LaB n x0 x1 x2 x3 x4 x5 x6 x7 x8 x9 x10 x12
 | 0,_,_,_,_,_,_,_,_,_,_,_,_,_=>rfl
 | n+1,x0,x1,x2,x3,x4,x5,x6,x7,x8,x9,x10,o,x12=>by rw [qLaT,qLaB];simp only [l48_old n]
theorem v48_1_eq {caps:List Int} {flows:List (List Int)} {ws:List Int} (hn:Nw caps flows) (hw:Wt caps.length flows ws) (lim old:List Int) (F:∀ fl,fl∈flows→∀ s:List Int,v52 fl caps flows lim ws s=some (wS ws fl)):v48_1 caps flows lim ws old=some (loadL ws flows):=by
 have hf:=hn.nf
 have key:∀ (n:Nat) (i:Int) (j:Nat) (s:List Int),i=j→LaU n flows (flows.length:Int) i caps flows lim ws old s=LaD n flows (flows.length:Int) i caps flows lim ws s:=by
  intro n
  induction n with
  | zero=>intro i j s e;rfl
  | succ n ih=>
   intro i j s e
   subst e
   rw [qLaU,qLaD]
   by_cases hj:j < flows.length
   ·have hm:=fget flows hj
    rw [up1 (by omega)]
    simp only [Int.toNat_natCast,F _ hm,l48_old]
    simp only [ih _ (j+1) _ rfl]
   ·rw [decide_eq_false (show ¬ (j:Int) < (flows.length:Int) by omega),cond_false,cond_false]
 have h:=v48_eq hn hw lim
 unfold v48 at h
 unfold v48_1
 rw [key _ 0 0 _ rfl]
 exact h
theorem v24_eq (x:Int):v24 x=some (x != 0):=rfl
theorem v23_3_eq (l:List Int) (hl:Len l):v23_3 l=some (l.any fun x=>x != 0):=by
 have hl':l.length≤9223372036854775807:=hl
 obtain ⟨j,h1,h2⟩:=ints_all l hl (fun n=>n==0) (fun n i=>Laz n l (l.length:Int) i) (fun n i hi=>by
  show Laz (n+1) _ _ _=_
  rw [qLaz,decide_eq_true (show (i:Int) < (l.length:Int) by omega),decide_eq_true (show (0:Int)≤(i:Int) by omega),up1 (by omega)]
  simp only [cond_true,Int.toNat_natCast,v24_eq,ok_some,val_some]
  rfl) fun n=>by
  show Laz (n+1) _ _ _=_
  rw [qLaz,decide_eq_false (show ¬ (l.length:Int) < (l.length:Int) by omega)]
  rfl
 unfold v23_3 v40_3
 rw [h1]
 simp only [ok_some,val_some,cond_true]
 have h3:decide (j≥0)=l.any fun x=>x != 0:=by
  rw [show decide (j≥0)=!(!decide (j≥0)) by simp,h2]
  clear h1 h2 hl hl'
  induction l with
  | nil=>rfl
  | cons a l ih=>simp only [List.all_cons,List.any_cons,Bool.not_and,ih]<;>rfl
 exact congrArg some h3
theorem nodup_incr {links:Int}:∀ {l:List Int} {last:Int},incr links last l=true→l.Nodup∧∀ k∈l,last < k∧k < links
 | [],_,_=>⟨List.nodup_nil,fun k hk=>nomatch hk⟩
 | k::r,last,h=>by
  unfold incr at h
  by_cases c:last < k∧k < links
  ·rw [decide_eq_true c] at h
   obtain ⟨h1,h2⟩:=nodup_incr (l:=r) h
   refine ⟨List.nodup_cons.2 ⟨fun hm=>by have:=h2 k hm;omega,h1⟩,fun x hx=>?_⟩
   rcases List.mem_cons.1 hx with rfl | hx
   ·exact c
   ·have:=h2 x hx;omega
  ·rw [decide_eq_false c] at h;cases h
theorem nw_of {caps:List Int} {flows:List (List Int)} (h:validS caps (netS flows)=true):Nw caps flows:=by
 unfold validS at h
 simp only [Bool.and_eq_true,decide_eq_true_eq] at h
 obtain ⟨h1,h2,h3,h4⟩:=h
 have hl:(netS flows).length=flows.length:=List.length_map _
 have hp:∀ f∈flows,incr caps.length (-1) f=true∧1≤f.length∧f.length≤6:=by
  intro f hf
  have:=List.all_eq_true.1 h4 [f] (List.mem_map.2 ⟨f,hf,rfl⟩)
  unfold flowS at this
  rw [decide_eq_true (show 1≤[f].length∧[f].length≤4 by simp)] at this
  simp only [cond_true,List.all_cons,List.all_nil,Bool.and_true] at this
  unfold pathS at this
  cases hx:incr caps.length (-1) f with
  | false=>rw [hx] at this;cases this
  | true=>rw [hx] at this;exact ⟨rfl,by simpa using this⟩
 exact ⟨by omega,by omega,h1.2,fun t=>upto_get (by omega) h3 t,fun f hf=>(hp f hf).2,fun f hf=>(nodup_incr (hp f hf).1).1,fun f hf k hk=>by have:=(nodup_incr (hp f hf).1).2 k hk;omega⟩
section
variable {caps : List Int} {flows : List (List Int)} {ws : List Int} (hn : Nw caps flows) (hw : Wt caps.length flows ws) (hf : Fit caps flows)
include hn hw hf
theorem l29_32 (lim:List Int):Lak FU ((nextL caps flows ws).length:Int) 0 caps flows lim ws (loadL ws flows) (nextL caps flows ws)=some (dbl (nextL caps flows ws)):=by
 have hl:=hw.len
 have hlk:=hn.lk
 have hll:(nextL caps flows ws).length=ws.length:=tab_len _ _
 have e0:nextL caps flows ws=tab ws.length fun t=>if t < 0 then nextU caps flows ws t*2 else nextU caps flows ws t:=tab_congr fun t _=>by rw [if_neg (by omega)]
 have e1:dbl (nextL caps flows ws)=tab ws.length fun t=>nextU caps flows ws t*2:=by
  unfold dbl
  rw [hll]
  exact tab_congr fun t ht=>by rw [nextL_get hn hw hf]
 rw [e1]
 conv=>lhs;rw [hll];arg 9;rw [e0]
 refine at_loop (m:=ws.length) (by omega) (fun n j (s:List Int)=>Lak n (ws.length:Int) j caps flows lim ws (loadL ws flows) s) (fun j=>tab ws.length fun t=>if t < j then nextU caps flows ws t*2 else nextU caps flows ws t) _ (fun n j hj=>?_) (fun n=>?_)
 ·show Lak (n+1) _ _ _ _ _ _ _ _=Lak n _ _ _ _ _ _ _ _
  have hb:=nextU_bd hn hw hf j
  rw [qLak,decide_eq_true (show (j:Int) < (ws.length:Int) by omega),decide_eq_true (show (0:Int)≤(j:Int) by omega),up1 (by omega)]
  simp only [cond_true,Int.toNat_natCast,tab_len]
  rw [decide_eq_true hj,decide_eq_true (show (j:Int) < (ws.length:Int) by omega),tab_get _ hj,if_neg (show ¬ j < j by omega),wrap_id (by omega) (by omega),tab_set]
  simp only [cond_true]
  have et:(tab ws.length fun k=>if k=j then nextU caps flows ws j*2 else if k < j then nextU caps flows ws k*2 else nextU caps flows ws k)=tab ws.length fun t=>if t < j+1 then nextU caps flows ws t*2 else nextU caps flows ws t:=by
   refine tab_congr fun t _=>?_
   by_cases c2:t=j
   ·rw [if_pos c2,c2,if_pos (by omega)]
   ·rw [if_neg c2]
    by_cases c3:t < j
    ·rw [if_pos c3,if_pos (by omega)]
    ·rw [if_neg c3,if_neg (by omega)]
  rw [et]
 ·show Lak (n+1) _ _ _ _ _ _ _ _=_
  rw [qLak,decide_eq_false (show ¬ (ws.length:Int) < (ws.length:Int) by omega),cond_false]
  exact congrArg some (tab_congr fun t ht=>if_pos ht)
theorem v29_eq (lim:List Int):v29 caps flows lim ws (loadL ws flows)=some (nextS caps flows ws,loadL (nextS caps flows ws) flows):=by
 have hl:=hw.len
 have hlk:=hn.lk
 have hm:=mS_ok hn hw hf
 have hld:(loadL ws flows).length=ws.length:=tab_len _ _
 have hll:(nextL caps flows ws).length=ws.length:=tab_len _ _
 have hLm:(loadL ws flows).getD (mS caps flows ws) 0=loadS1 ws flows (mS caps flows ws):=tab_get _ (by omega)
 have hnw:=next_wt hn hw hf
 have hv:=v48_1_eq hn hnw lim (loadL ws flows) fun fl hfl s=>v52_eq hn hnw hfl lim s
 unfold v29
 simp only [l29_0 hn hw hf lim,ok_some,val_some,cond_true,Int.toNat_natCast,hLm,hld]
 rw [decide_eq_true (show (0:Int)≤(mS caps flows ws:Int) by omega),decide_eq_true (show (mS caps flows ws:Int) < (caps.length:Int) by omega),decide_eq_true (show (mS caps flows ws:Int) < (ws.length:Int) by omega),decide_eq_true (show mS caps flows ws < ws.length by omega),decide_eq_true (Int.le_refl _),decide_eq_true (show (ws.length:Int)≤((nat_lit 2147483648:Nat):Int) by show (ws.length:Int)≤((2147483648:Nat):Int);omega)]
 simp only [l29_16 hn hw hf lim,ok_some,val_some,cond_true]
 simp only [v53_eq (l:=nextL caps flows ws) (by omega) (by omega),ok_some,val_some,cond_true]
 unfold nextS at hv ⊢
 by_cases c:maxL (nextL caps flows ws) < 50000
 ·rw [if_pos c] at hv ⊢
  rw [decide_eq_true c]
  simp only [l29_32 hn hw hf lim,hv,ok_some,val_some,cond_true]
 ·rw [if_neg c] at hv ⊢
  rw [decide_eq_false c]
  simp only [hv,ok_some,val_some,cond_true,cond_false]
end
def wsN (caps:List Int) (flows:List (List Int)):Nat→List Int
 | 0=>startW caps.length flows
 | k+1=>nextS caps flows (wsN caps flows k)
abbrev Best:=List (List Int)×List Int×Int
def bestF (o:Best) (c:Cert):Best:=cond c.2.2.2 (if c.2.2.1 < o.2.2 then (c.1,c.2.1,c.2.2.1) else o) o
def bestN (caps:List Int) (flows:List (List Int)):Nat→Best
 | 0=>((certS caps (startW caps.length flows) flows).1,(certS caps (startW caps.length flows) flows).2.1,(certS caps (startW caps.length flows) flows).2.2.1)
 | k+1=>bestF (bestN caps flows k) (certS caps (wsN caps flows (k+1)) flows)
section
variable {caps : List Int} {flows : List (List Int)} (hn : Nw caps flows) (hf : Fit caps flows)
include hn hf
theorem wsN_wt:∀ k,Wt caps.length flows (wsN caps flows k)
 | 0=>start_wt hn
 | k+1=>next_wt hn (wsN_wt k) hf
theorem l13 (lim:List Int) {r:Nat} (hr:r≤1000):Lad FU (r:Int) 0 0 (bestN caps flows 0).1 (bestN caps flows 0).2.1 (bestN caps flows 0).2.2 caps flows lim (wsN caps flows 0) (loadL (wsN caps flows 0) flows) [] []=some (bestN caps flows r):=by
 refine at_loop (m:=r) (by omega) (fun n j (s:Best×List Int)=>Lad n (r:Int) j 0 s.1.1 s.1.2.1 s.1.2.2 caps flows lim s.2 (loadL s.2 flows) [] []) (fun j=>(bestN caps flows j,wsN caps flows j)) _ (fun n j hj=>?_) (fun n=>?_)
 ·show Lad (n+1) _ _ _ _ _ _ _ _ _ _ _ _ _=Lad n _ _ _ _ _ _ _ _ _ _ _ _ _
  have e1:bestN caps flows (j+1)=bestF (bestN caps flows j) (certS caps (wsN caps flows (j+1)) flows):=rfl
  have e2:wsN caps flows (j+1)=nextS caps flows (wsN caps flows j):=rfl
  rw [qLad,decide_eq_true (show (j:Int) < (r:Int) by omega),up1 (by omega)]
  simp only [v29_eq hn (wsN_wt hn hf j) hf lim,ok_some,val_some,cond_true]
  rw [← e2]
  simp only [v28_eq hn (wsN_wt hn hf (j+1)) lim,ok_some,val_some,cond_true]
  rw [e1]
  unfold bestF
  cases (certS caps (wsN caps flows (j+1)) flows).2.2.2 with
  | false=>rfl
  | true=>
   simp only [cond_true]
   by_cases c:(certS caps (wsN caps flows (j+1)) flows).2.2.1 < (bestN caps flows j).2.2
   ·rw [if_pos c,decide_eq_true c];rfl
   ·rw [if_neg c,decide_eq_false c];rfl
 ·show Lad (n+1) _ _ _ _ _ _ _ _ _ _ _ _ _=_
  rw [qLad,decide_eq_false (show ¬ (r:Int) < (r:Int) by omega)]
  rfl
end
def askS (caps:List Int) (flows:List (List Int)) (lim:List Int) (r:Int):Bool:=
 validS caps (netS flows)&&(decide (lim.length=flows.length)&&(!(lim.any fun x=>x != 0)&&(decide (0≤r)&&decide (r≤1000))))
def solveS (caps:List Int) (flows:List (List Int)) (lim:List Int) (r:Int):List (List Int)×List Int×Int×Int:=
 cond (askS caps flows lim r) (cond (fineS caps flows) ((bestN caps flows r.toNat).1,(bestN caps flows r.toNat).2.1,(bestN caps flows r.toNat).2.2,0) ([],[],0,4)) ([],[],0,1)
theorem v13_eq {caps:List Int} {flows:List (List Int)} {lim:List Int} (r:Int) (h:Few caps (netS flows) [] []) (hlim:Len lim):v13 caps flows lim r=some (solveS caps flows lim r):=by
 have hfl:flows.length≤20:=by have:=h.hf;unfold netS at this;rw [List.length_map] at this;exact this
 unfold v13 solveS askS
 rw [v23_3_eq lim hlim,v26_eq caps lim hfl]
 simp only [ok_some,val_some,cond_true]
 rw [v25_eq h]
 simp only [ok_some,val_some,cond_true,cond_nb]
 cases h1:validS caps (netS flows) with
 | false=>rfl
 | true=>
  have hn:=nw_of h1
  by_cases c1:lim.length=flows.length
  case neg=>rw [decide_eq_false c1,show ((lim.length:Int) != (flows.length:Int))=true by simp;omega];rfl
  rw [decide_eq_true c1,show ((lim.length:Int) != (flows.length:Int))=false by simp;omega]
  cases (lim.any fun x=>x != 0) with
  | true=>rfl
  | false=>
   by_cases c2:0≤r
   case neg=>rw [decide_eq_false c2,decide_eq_true (show r < 0 by omega)];rfl
   rw [decide_eq_true c2,decide_eq_false (show ¬ r < 0 by omega)]
   by_cases c3:r≤1000
   case neg=>rw [decide_eq_false c3,decide_eq_true (show r > 1000 by omega)];rfl
   rw [decide_eq_true c3,decide_eq_false (show ¬ r > 1000 by omega)]
   simp only [cond_true,cond_false,v27_eq hn lim,ok_some,val_some,Bool.not_false,Bool.and_self]
   cases hfi:fineS caps flows with
   | false=>rfl
   | true=>
    have hf:=(fine_iff hn).1 hfi
    have e:=v28_eq hn (start_wt hn) lim
    have er:r=((r.toNat:Nat):Int):=by omega
    have e13:=l13 hn hf lim (r:=r.toNat) (by omega)
    rw [← er] at e13
    simp only [cond_true,e,ok_some,val_some]
    rw [show Lad FU r 0 0 (certS caps (startW caps.length flows) flows).1 (certS caps (startW caps.length flows) flows).2.1 (certS caps (startW caps.length flows) flows).2.2.1 caps flows lim (startW caps.length flows) (loadL (startW caps.length flows) flows) [] []=some (bestN caps flows r.toNat) from e13]
    rfl
theorem sumN_lsum {α:Type} (g:α→Int) (l:List α) (d:α):sumN l.length (fun t=>g (l.getD t d))=lsum g l:=by
 have key:∀ j,j≤l.length→sumN j (fun t=>g (l.getD t d))=lsum g (l.take j):=by
  intro j
  induction j with
  | zero=>intro _;rfl
  | succ j ih=>intro h;rw [lsum_take g l d (by omega)];simp only [sumN];rw [ih (by omega)]
 rw [key l.length (Nat.le_refl _),take_all]
theorem pk_on {l:List Int} (h:l.Nodup) (r:Int) (k:Nat):pk l r k=onS k r l:=by
 unfold pk
 rw [sumN_lsum (fun x=>cond (x==(k:Int)) r 0)]
 induction l with
 | nil=>rfl
 | cons a l ih=>
  obtain ⟨h1,h2⟩:=List.nodup_cons.1 h
  simp only [lsum]
  rw [ih h2]
  unfold onS
  by_cases c:a=(k:Int)
  ·rw [show (a==(k:Int))=true by simp [c],if_neg (c▸h1),if_pos (by simp [c])];simp
  ·rw [show (a==(k:Int))=false by simp [c]]
   by_cases c2:(k:Int)∈l
   ·rw [if_pos c2,if_pos (by simp [c2])];simp
   ·rw [if_neg c2,if_neg (by simp only [List.mem_cons];rintro (h | h);exact c h.symm;exact c2 h)];simp
theorem net_get {flows:List (List Int)} {i:Nat} (h:i < flows.length):(netS flows).getD i []=[flows.getD i []]:=by
 unfold netS;rw [getD_map _ flows [] [],if_pos h]
theorem net_len (flows:List (List Int)):(netS flows).length=flows.length:=List.length_map _
theorem lsum_zero {α:Type}:∀ l:List α,lsum (fun _=>0) l=0
 | []=>rfl
 | x::l=>by simp only [lsum,lsum_zero l]<;>rfl
theorem load_net {flows rates:List (List Int)} (hnd:∀ f∈flows,f.Nodup) (k:Nat):loadS (netS flows) rates k=sumN flows.length fun i=>onS k (rt rates i 0) (flows.getD i []):=by
 unfold loadS
 rw [net_len]
 refine sumN_congr fun i hi=>?_
 have e:pth (netS flows) i 0=flows.getD i []:=by unfold pth;rw [net_get hi];rfl
 rw [net_get hi]
 show 0+pk (pth (netS flows) i 0) (rt rates i 0) k=_
 rw [e,pk_on (hnd _ (fget flows hi)),Int.zero_add]
theorem rates_get (caps ws:List Int) {flows:List (List Int)} {i:Nat} (h:i < flows.length):(ratesL caps ws flows).getD i []=[rateS caps ws flows (flows.getD i [])]:=by
 unfold ratesL;rw [getD_map _ flows [] [],if_pos h]
theorem price_sum (l prices:List Int):priceS l prices=lsum (fun k=>prices.getD k.toNat 0) l:=by
 unfold priceS
 exact sumN_lsum (fun k=>prices.getD (Int.toNat k) 0) l 0
theorem lsum_mono {α:Type} {g h:α→Int} {c p:Int}:∀ {l:List α},(∀ x∈l,c*g x≤p*h x)→c*lsum g l≤p*lsum h l
 | [],_=>by simp [lsum]
 | x::l,hx=>by
  have h1:=hx x List.mem_cons_self
  have h2:=lsum_mono (l:=l) fun y hy=>hx y (List.mem_cons_of_mem _ hy)
  simp only [lsum]
  rw [Int.mul_add,Int.mul_add]
  omega
theorem ceil_ge {p w:Int} (hp:1≤p) (hw:0≤w):1000000000000*w≤p*priceAt p w∧0≤priceAt p w∧p*priceAt p w≤1000000000000*w+p - 1:=by
 unfold priceAt
 rw [Int.tdiv_eq_ediv_of_nonneg (by omega)]
 have h2:=Int.mul_ediv_add_emod (w*1000000000000+p - 1) p
 have h3:=Int.emod_nonneg (w*1000000000000+p - 1) (show p≠0 by omega)
 have h4:=Int.emod_lt_of_pos (w*1000000000000+p - 1) (show 0 < p by omega)
 have h5:0≤(w*1000000000000+p - 1) / p:=Int.ediv_nonneg (by omega) (by omega)
 generalize (w*1000000000000+p - 1) % p=m at*
 generalize p*((w*1000000000000+p - 1) / p)=q at*
 omega
section
variable {caps : List Int} {flows : List (List Int)} {ws : List Int} (hn : Nw caps flows) (hw : Wt caps.length flows ws)
include hn hw
theorem carries_ok:carriesS caps (netS flows) (ratesL caps ws flows)=true:=by
 unfold carriesS
 refine List.all_eq_true.2 fun k hk=>?_
 have hk:k < caps.length:=List.mem_range.1 hk
 have e:loadS (netS flows) (ratesL caps ws flows) k=lsum (fun f=>onS k (rateS caps ws flows f) f) flows:=by
  rw [load_net hn.nd,← sumN_lsum (fun f=>onS k (rateS caps ws flows f) f) flows []]
  refine sumN_congr fun i hi=>?_
  unfold rt
  rw [rates_get caps ws hi];rfl
 rw [e,decide_eq_true]
 have hc:=hn.cp k
 have hb:=load_bd1 hn hw k
 have key:loadS1 ws flows k*lsum (fun f=>onS k (rateS caps ws flows f) f) flows≤(1000000*caps.getD k 0)*lsum (fun f=>onS k (partS ws f) f) flows:=by
  refine lsum_mono fun f hf=>?_
  unfold onS
  by_cases c:(k:Int)∈f
  ·rw [if_pos c,if_pos c]
   have h1:rateS caps ws flows f≤rateAt caps ws flows f k:=minL_le c
   have hp:=part_bd hn hw hf
   have hL:=load_ge hn hw hf c
   have h0:0≤partS ws f*caps.getD k 0:=Int.mul_nonneg (by omega) hc.1
   have h2:loadS1 ws flows k*rateAt caps ws flows f k≤partS ws f*caps.getD k 0*1000000:=by
    unfold rateAt
    rw [Int.toNat_natCast,Int.tdiv_eq_ediv_of_nonneg (by omega)]
    exact Int.mul_ediv_self_le (by omega)
   have h3:loadS1 ws flows k*rateS caps ws flows f≤loadS1 ws flows k*rateAt caps ws flows f k:=Int.mul_le_mul_of_nonneg_left h1 hb.1
   have e2:1000000*caps.getD k 0*partS ws f=partS ws f*caps.getD k 0*1000000:=by rw [Int.mul_comm (partS ws f),Int.mul_comm _ 1000000,Int.mul_assoc]
   omega
  ·rw [if_neg c,if_neg c];simp
 by_cases c:loadS1 ws flows k=0
 ·have hnone:∀ f∈flows,¬ (k:Int)∈f:=fun f hf hm=>by
   have:=load_pos hn hw ⟨f,hf,hm⟩
   omega
  rw [lsum_congr (g:=fun _=>0) fun f hf=>by unfold onS;rw [if_neg (hnone f hf)]]
  have:=lsum_zero flows
  omega
 ·have e3:lsum (fun f=>onS k (partS ws f) f) flows=loadS1 ws flows k:=rfl
  rw [e3,Int.mul_comm _ (loadS1 ws flows k)] at key
  exact Int.le_of_mul_le_mul_left key (by omega)
theorem prices_get {k:Int} (h0:0≤k) (h:k < (caps.length:Int)):(pricesL caps ws flows).getD k.toNat 0=priceAt (leastS caps ws flows) (ws.getD k.toNat 0):=by
 have hl:=hw.len
 unfold pricesL
 rw [getD_map _ ws 0 0,if_pos (by omega)]
theorem pay_ok (hp:leastS caps ws flows≠0) {f:List Int} (hf:f∈flows):1≤rateS caps ws flows f∧1000000000000≤priceS f (pricesL caps ws flows)*rateS caps ws flows f:=by
 have hlb:=leastS_bd hn hw
 have hW:=wS_bd hn hw hf
 have hr:=rateS_bd hn hw hf
 have hpay:leastS caps ws flows≤payS caps ws flows f:=minL_le hf
 have e1:1000000000000*wS ws f≤leastS caps ws flows*priceS f (pricesL caps ws flows):=by
  rw [price_sum]
  refine lsum_mono fun k hk=>?_
  have hk:=hn.rg f hf k hk
  rw [prices_get hn hw hk.1 hk.2]
  exact (ceil_ge (by omega) (hw.bd _).1).1
 unfold payS at hpay
 generalize leastS caps ws flows=p at*
 generalize priceS f (pricesL caps ws flows)=q at*
 generalize rateS caps ws flows f=x at*
 generalize wS ws f=W at*
 have hx:1≤x:=by
  rcases Int.lt_or_le 0 x with h | h
  ·omega
  ·have:x=0:=by omega
   rw [this,Int.mul_zero] at hpay;omega
 refine ⟨hx,?_⟩
 have hq:0≤q:=by
  refine Int.not_lt.1 fun h=>?_
  have:p*q≤p*0:=Int.mul_le_mul_of_nonneg_left (by omega) (by omega)
  omega
 have e2:p*q≤W*x*q:=Int.mul_le_mul_of_nonneg_right hpay hq
 have e3:W*1000000000000≤W*(q*x):=by
  have:W*x*q=W*(q*x):=by rw [Int.mul_assoc,Int.mul_comm x q]
  omega
 exact Int.le_of_mul_le_mul_left e3 (by omega)
theorem pays_ok (hp:leastS caps ws flows≠0):paysS (netS flows) (ratesL caps ws flows) (pricesL caps ws flows)=true:=by
 unfold paysS
 rw [net_len]
 refine List.all_eq_true.2 fun i hi=>?_
 have hi:i < flows.length:=List.mem_range.1 hi
 rw [net_get hi]
 refine List.all_eq_true.2 fun t ht=>?_
 have ht:t=0:=by have:=List.mem_range.1 ht;simp at this;exact this
 have e:pth (netS flows) i 0=flows.getD i []:=by unfold pth;rw [net_get hi];rfl
 rw [ht,e,rates_get caps ws hi,decide_eq_true]
 show _≤_*(0+rateS caps ws flows (flows.getD i []))
 rw [Int.zero_add]
 exact (pay_ok hn hw hp (fget flows hi)).2
theorem sound_ok (hp:leastS caps ws flows≠0):soundS caps (netS flows) (ratesL caps ws flows) (pricesL caps ws flows)=true:=by
 unfold soundS
 rw [carries_ok hn hw,pays_ok hn hw hp];rfl
theorem rates_ok:ratesS (netS flows) (ratesL caps ws flows)=true:=by
 have hl:(ratesL caps ws flows).length=flows.length:=List.length_map _
 unfold ratesS
 rw [net_len,hl,decide_eq_true rfl,Bool.true_and]
 refine List.all_eq_true.2 fun i hi=>?_
 have hi:i < flows.length:=List.mem_range.1 hi
 have hb:=rateS_bd hn hw (fget flows hi)
 rw [rates_get caps ws hi,net_get hi]
 generalize rateS caps ws flows (flows.getD i [])=x at*
 simp [upto];omega
end
section
variable {caps : List Int} {flows : List (List Int)} (hn : Nw caps flows) (hf : Fit caps flows)
include hn
theorem start_get (t:Nat):(startW caps.length flows).getD t 0=cond (usedB flows t) 1000 0:=by
 by_cases h:t < caps.length
 ·exact tab_get _ h
 ·rw [getD_out (by unfold startW;rw [tab_len];omega)]
  cases hu:usedB flows t with
  | false=>rfl
  | true=>exact absurd (used_in hn (used_iff.1 hu)) h
theorem start_wS {f:List Int} (hf:f∈flows):1000≤wS (startW caps.length flows) f∧wS (startW caps.length flows) f≤6000:=by
 have hl:=hn.h1 f hf
 have h:=lsum_bdn (g:=fun k=>(startW caps.length flows).getD k.toNat 0) (c:=1000) (m:=6) (by omega) hl.2 fun k hk=>by
  rw [start_get hn];cases usedB flows k.toNat<;>simp
 obtain ⟨k,hk⟩:=List.exists_mem_of_length_pos (by omega:0 < f.length)
 have h1:=lsum_one (g:=fun k=>(startW caps.length flows).getD k.toNat 0) (l:=f) (fun y _=>by rw [start_get hn];cases usedB flows y.toNat<;>simp) hk
 have h2:(startW caps.length flows).getD k.toNat 0=1000:=by rw [start_get hn,used_iff.2 (used_at hf hk (hn.rg f hf k hk).1)];rfl
 unfold wS
 have h3:=h.2
 constructor
 ·simp only [h2] at h1;exact h1
 ·omega
theorem start_part {f:List Int} (hf:f∈flows):166666≤partS (startW caps.length flows) f∧partS (startW caps.length flows) f≤1000000:=by
 have h:=start_wS hn hf
 unfold partS
 rw [Int.tdiv_eq_ediv_of_nonneg (by omega)]
 constructor
 ·rw [Int.le_ediv_iff_mul_le (by omega)];omega
 ·have:1000000000 / wS (startW caps.length flows) f < 1000001:=by rw [Int.ediv_lt_iff_lt_mul (by omega)];omega
  omega
theorem start_load (t:Nat):loadS1 (startW caps.length flows) flows t≤8000000:=by
 have:=lsum_bdn (g:=fun fl=>onS t (partS (startW caps.length flows) fl) fl) (c:=1000000) (m:=8) (by omega) hn.nf fun f hf=>by
  have:=start_part hn hf
  unfold onS;split<;>omega
 have h:=this.2
 unfold loadS1
 omega
include hf
theorem start_pay {f:List Int} (hff:f∈flows):20833000≤payS caps (startW caps.length flows) flows f:=by
 have hw:=start_wt hn
 obtain ⟨k,hk,e⟩:=minL_at (g:=rateAt caps (startW caps.length flows) flows f) (l:=f) (by have:=hn.h1 f hff;omega)
 have hr:=hn.rg f hff k hk
 have hu:=used_at hff hk hr.1
 have hc:=hf _ hu
 have hp:=start_part hn hff
 have hL:=load_pos hn hw hu
 have hL2:=start_load hn k.toNat
 have hW:=start_wS hn hff
 have h1:20833≤rateS caps (startW caps.length flows) flows f:=by
  unfold rateS
  rw [e]
  unfold rateAt
  have h0:166666*1≤partS (startW caps.length flows) f*caps.getD k.toNat 0:=Int.mul_le_mul hp.1 hc (by omega) (by omega)
  rw [Int.tdiv_eq_ediv_of_nonneg (by omega),Int.le_ediv_iff_mul_le (by omega)]
  omega
 unfold payS
 have:1000*20833≤wS (startW caps.length flows) f*rateS caps (startW caps.length flows) flows f:=Int.mul_le_mul hW.1 h1 (by omega) (by omega)
 omega
theorem start_least:20833000≤leastS caps (startW caps.length flows) flows:=by
 obtain ⟨f,hff,e⟩:=minL_at (g:=payS caps (startW caps.length flows) flows) (l:=flows) (by have:=hn.f1;omega)
 unfold leastS
 rw [e]
 exact start_pay hn hf hff
theorem start_price (t:Nat):0≤(pricesL caps (startW caps.length flows) flows).getD t 0∧(pricesL caps (startW caps.length flows) flows).getD t 0≤48001000:=by
 have hp:=start_least hn hf
 unfold pricesL
 rw [getD_map _ (startW caps.length flows) 0 0]
 split
 ·have hw:=start_get hn t
  have hb:0≤(startW caps.length flows).getD t 0∧(startW caps.length flows).getD t 0≤1000:=by rw [hw];cases usedB flows t<;>simp
  generalize (startW caps.length flows).getD t 0=w at*
  generalize leastS caps (startW caps.length flows) flows=p at*
  obtain ⟨h1,h2,h3⟩:=ceil_ge (p:=p) (w:=w) (by omega) hb.1
  refine ⟨h2,Int.not_lt.1 fun h=>?_⟩
  have:p*48001001≤p*priceAt p w:=Int.mul_le_mul_of_nonneg_left (by omega) (by omega)
  omega
 ·omega
theorem start_ok (hv:validS caps (netS flows)=true):(certS caps (startW caps.length flows) flows).2.2.2=true∧leastS caps (startW caps.length flows) flows≠0:=by
 have hw:=start_wt hn
 have hp:=start_least hn hf
 have hpl:(pricesL caps (startW caps.length flows) flows).length=caps.length:=by unfold pricesL startW;rw [List.length_map,tab_len]
 have hps:pricesS caps (pricesL caps (startW caps.length flows) flows)=true:=by
  unfold pricesS
  rw [hpl,decide_eq_true rfl,Bool.true_and]
  unfold upto
  refine List.all_eq_true.2 fun x hx=>?_
  obtain ⟨i,hi,e⟩:=List.getElem_of_mem hx
  have:=start_price hn hf i
  rw [List.getD_eq_getElem?_getD,List.getElem?_eq_getElem hi,Option.getD_some,e] at this
  rw [decide_eq_true];omega
 have hcost:costS caps (pricesL caps (startW caps.length flows) flows)≤384008000000:=by
  unfold costS
  have hlk:=hn.lk
  have:=sumN_bd (n:=(pricesL caps (startW caps.length flows) flows).length) (m:=8) (f:=fun k=>(pricesL caps (startW caps.length flows) flows).getD k 0*caps.getD k 0) (c:=48001000*1000) (by omega) (fun i _=>by
   have h1:=start_price hn hf i
   have h2:=hn.cp i
   exact ⟨Int.mul_nonneg h1.1 h2.1,Int.mul_le_mul h1.2 h2.2 h2.1 (by omega)⟩) (by omega)
  have h:=this.2
  omega
 have hfl:=hn.nf
 refine ⟨?_,by omega⟩
 unfold certS
 rw [if_neg (by omega)]
 show decide ((gapS caps (netS flows) (ratesL caps (startW caps.length flows) flows) (pricesL caps (startW caps.length flows) flows)).2=0)=true
 unfold gapS
 rw [hv,rates_ok hn hw,hps,sound_ok hn hw (by omega),net_len,decide_eq_true (show max 0 (costS caps (pricesL caps (startW caps.length flows) flows) - 1000000*(flows.length:Int))≤1000000000000 by omega)]
 rfl
theorem best_ok (hv:validS caps (netS flows)=true):∀ k,∃ ws,Wt caps.length flows ws∧leastS caps ws flows≠0∧(bestN caps flows k).1=ratesL caps ws flows∧(bestN caps flows k).2.1=pricesL caps ws flows∧
  gapS caps (netS flows) (bestN caps flows k).1 (bestN caps flows k).2.1=((bestN caps flows k).2.2,0)
 | 0=>by
  have h:=start_ok hn hf hv
  refine ⟨startW caps.length flows,start_wt hn,h.2,?_⟩
  have h1:=h.1
  show (certS caps (startW caps.length flows) flows).1=_∧(certS caps (startW caps.length flows) flows).2.1=_∧gapS caps (netS flows) (certS caps (startW caps.length flows) flows).1 (certS caps (startW caps.length flows) flows).2.1=((certS caps (startW caps.length flows) flows).2.2.1,0)
  unfold certS at h1 ⊢
  rw [if_neg h.2] at h1 ⊢
  have h1:=of_decide_eq_true h1
  exact ⟨rfl,rfl,Prod.ext rfl h1⟩
 | k+1=>by
  have ih:=best_ok hv k
  show ∃ ws,Wt caps.length flows ws∧leastS caps ws flows≠0∧(bestF (bestN caps flows k) (certS caps (wsN caps flows (k+1)) flows)).1=ratesL caps ws flows∧(bestF (bestN caps flows k) (certS caps (wsN caps flows (k+1)) flows)).2.1=pricesL caps ws flows∧gapS caps (netS flows) (bestF (bestN caps flows k) (certS caps (wsN caps flows (k+1)) flows)).1 (bestF (bestN caps flows k) (certS caps (wsN caps flows (k+1)) flows)).2.1=((bestF (bestN caps flows k) (certS caps (wsN caps flows (k+1)) flows)).2.2,0)
  unfold bestF
  cases h1:(certS caps (wsN caps flows (k+1)) flows).2.2.2 with
  | false=>exact ih
  | true=>
   simp only [cond_true]
   by_cases c:(certS caps (wsN caps flows (k+1)) flows).2.2.1 < (bestN caps flows k).2.2
   ·rw [if_pos c]
    refine ⟨wsN caps flows (k+1),wsN_wt hn hf (k+1),?_⟩
    by_cases c2:leastS caps (wsN caps flows (k+1)) flows=0
    ·exfalso
     unfold certS at h1
     rw [if_pos c2] at h1
     cases h1
    ·refine ⟨c2,?_⟩
     unfold certS at h1 ⊢
     rw [if_neg c2] at h1 ⊢
     have h1:=of_decide_eq_true h1
     exact ⟨rfl,rfl,Prod.ext rfl h1⟩
   ·rw [if_neg c];exact ih
end
def fewN (caps:List Int) (flows:List (List Int)) (lim:List Int):Bool:=
 cond (flows.all fun f=>decide (f.length≤20)) (cond (decide (caps.length≤20)) (cond (decide (flows.length≤20)) (decide (lim.length≤40)) false) false) false
theorem v12_eq {caps:List Int} {flows:List (List Int)} {lim:List Int} (hl:Len flows):v12 caps flows lim=some (fewN caps flows lim):=by
 have hl':flows.length≤9223372036854775807:=hl
 have h0:=all_loop (m:=flows.length) (by omega) (fun n j=>Lau n j caps flows lim) (fun j=>decide ((flows.getD j []).length≤20)) (fun n i hi=>by
  show Lau (n+1) _ _ _ _=_
  rw [qLau,decide_eq_true (show (i:Int) < (flows.length:Int) by omega),decide_eq_true (show (0:Int)≤(i:Int) by omega),up1 (by omega)]
  simp only [cond_true,Int.toNat_natCast,dgt,cond_nb]) fun n=>by
  show Lau (n+1) _ _ _ _=_
  rw [qLau,decide_eq_false (show ¬ (flows.length:Int) < (flows.length:Int) by omega)]
  rfl
 rw [all_range flows [] fun f=>decide (f.length≤20)] at h0
 have h0:Lau FU 0 caps flows lim=_:=h0
 unfold v12 fewN
 rw [h0]
 cases flows.all fun f=>decide (f.length≤20) with
 | false=>rfl
 | true=>
  simp only [cond_true,isL_inr,getR_inr,ok_some,cond_false]
  rw [show decide ((caps.length:Int)≤20)=decide (caps.length≤20) from decide_eq_decide.2 (by omega),show decide ((flows.length:Int)≤20)=decide (flows.length≤20) from decide_eq_decide.2 (by omega),show decide ((lim.length:Int)≤40)=decide (lim.length≤40) from decide_eq_decide.2 (by omega)]
  cases decide (caps.length≤20)<;>cases decide (flows.length≤20)<;>rfl
theorem fewN_iff {caps:List Int} {flows:List (List Int)} {lim:List Int} (h:fewN caps flows lim=true):caps.length≤20∧flows.length≤20∧lim.length≤40∧∀ f∈flows,f.length≤20:=by
 unfold fewN at h
 cases h1:flows.all fun f=>decide (f.length≤20) with
 | false=>rw [h1] at h;cases h
 | true=>
  rw [h1] at h
  by_cases c1:caps.length≤20
  case neg=>rw [decide_eq_false c1] at h;cases h
  by_cases c2:flows.length≤20
  case neg=>rw [decide_eq_false c2] at h;simp at h
  rw [decide_eq_true c1,decide_eq_true c2] at h
  exact ⟨c1,c2,by simpa using h,fun f hf=>by simpa using List.all_eq_true.1 h1 f hf⟩
theorem few_net {caps:List Int} {flows rates:List (List Int)} {prices:List Int} (h1:caps.length≤20) (h2:flows.length≤20) (h3:∀ f∈flows,f.length≤20) (hr:rates.length≤20) (hri:∀ i,(rates.getD i []).length≤20) (hp:prices.length≤20):Few caps (netS flows) rates prices:=by
 refine ⟨h1,by rw [net_len];exact h2,hr,hp,fun i=>?_,fun i k=>?_,hri⟩
 ·unfold netS;rw [getD_map _ flows [] []];split<;>simp
 ·unfold netS;rw [getD_map _ flows [] []]
  split
  ·rename_i hi
   have:=h3 _ (fget flows hi)
   cases k with
   | zero=>show (flows.getD i []).length≤20;omega
   | succ k=>show (([]:List (List Int)).getD k []).length≤20;simp
  ·simp
theorem solve_eq {caps:List Int} {flows:List (List Int)} {lim:List Int} (r:Int) (h:fewN caps flows lim=true):v13 caps flows lim r=some (solveS caps flows lim r):=by
 obtain ⟨h1,h2,h3,h4⟩:=fewN_iff h
 exact v13_eq r (few_net h1 h2 h4 (by simp) (by simp) (by simp)) (show lim.length≤9223372036854775807 by omega)
theorem solve_ok {caps:List Int} {flows:List (List Int)} {lim:List Int} {r:Int} (h:(solveS caps flows lim r).2.2.2=0):askS caps flows lim r=true∧fineS caps flows=true∧validS caps (netS flows)=true∧Nw caps flows∧Fit caps flows∧solveS caps flows lim r=((bestN caps flows r.toNat).1,(bestN caps flows r.toNat).2.1,(bestN caps flows r.toNat).2.2,0):=by
 unfold solveS at h ⊢
 cases h1:askS caps flows lim r with
 | false=>rw [h1] at h;simp at h
 | true=>
  rw [h1] at h
  cases h2:fineS caps flows with
  | false=>rw [h2] at h;simp at h
  | true=>
   have hv:validS caps (netS flows)=true:=by unfold askS at h1;exact (Bool.and_eq_true_iff.1 h1).1
   have hn:=nw_of hv
   exact ⟨rfl,rfl,hv,hn,(fine_iff hn).1 h2,rfl⟩
theorem tmod31 {x:Int} (h:0≤x∧x≤255):Int.tmod (IntKind.wrap IntKind.i64 x) 31=x % 31:=by rw [wrap_id (by omega) (by omega)];exact Int.tmod_eq_emod_of_nonneg h.1
theorem v17_eq (caps lim:List Int) {flows:List (List Int)} (hf:flows.length≤20):v17 caps flows lim=some (netS flows):=by
 have h0:LaK FU 0 caps flows lim caps [] [] []=some (netS flows):=by
  refine at_loop (m:=flows.length) (by omega) (fun n j (s:List (List (List Int)))=>LaK n j caps flows lim caps [] [] s) (fun j=>netS (flows.take j)) _ (fun n j hj=>?_) (fun n=>?_)
  ·show LaK (n+1) _ _ _ _ _ _ _ _=LaK n _ _ _ _ _ _ _ _
   rw [qLaK,decide_eq_true (show (j:Int) < (flows.length:Int) by omega),decide_eq_true (show (0:Int)≤(j:Int) by omega),up1 (by omega)]
   simp only [cond_true,Int.toNat_natCast]
   refine (cond_dec (by unfold netS;simp only [List.length_map,List.length_take,List.length_singleton];show _≤2147483648;omega) _ _).trans ?_
   have e:netS (flows.take j)++[[flows.getD j []]]=netS (flows.take (j+1)):=by unfold netS;rw [take_next flows [] hj,List.map_append];rfl
   rw [e]
  ·show LaK (n+1) _ _ _ _ _ _ _ _=_
   rw [qLaK,decide_eq_false (show ¬ (flows.length:Int) < (flows.length:Int) by omega),take_all]
   rfl
 unfold v17
 rw [h0];rfl
theorem v16_eq {caps:List Int} {flows:Fl} {rates:List (List Int)} (hf:flows.length≤20) (hfl:∀ i,(flows.getD i []).length≤20):v16 caps flows rates=some (ratesS flows rates):=by
 unfold v16 ratesS
 rw [bne_len]
 simp only [cond_nb]
 by_cases c1:rates.length=flows.length
 case neg=>rw [decide_eq_false c1];rfl
 rw [decide_eq_true c1]
 have hL:Lao FU rates 0 caps flows=some (cond ((List.range rates.length).all fun i=>cond (decide ((rates.getD i []).length=(flows.getD i []).length)) (upto 1000000000 (rates.getD i [])) false) (.inr ()) (.inl false)):=by
  refine all_loop (m:=rates.length) (by omega) (fun n j=>Lao n rates j caps flows) _ (fun n i hi=>?_) fun n=>?_
  ·show Lao (n+1) _ _ _ _=_
   have h20:=hfl i
   have h16:(rates.getD i []).length=(flows.getD i []).length→Lam FU rates (i:Int) 0 caps flows=some (cond (upto 1000000000 (rates.getD i [])) (.inr ()) (.inl false)):=by
    intro hl
    unfold upto
    rw [← all_range (rates.getD i []) 0 fun n=>decide (0≤n∧n≤1000000000)]
    refine all_loop (m:=(rates.getD i []).length) (by omega) (fun n j=>Lam n rates (i:Int) j caps flows) _ (fun n j hj=>?_) fun n=>?_
    ·show Lam (n+1) _ _ _ _ _=_
     rw [qLam,decide_eq_true (show (0:Int)≤(i:Int) by omega),decide_eq_true (show (i:Int) < (rates.length:Int) by omega)]
     simp only [cond_true,Int.toNat_natCast]
     rw [decide_eq_true (show (j:Int) < ((rates.getD i []).length:Int) by omega),decide_eq_true (show (0:Int)≤(j:Int) by omega),up1 (by omega)]
     simp only [cond_true]
     by_cases c2:(rates.getD i []).getD j 0 < 0
     ·rw [decide_eq_true c2,decide_eq_false (show ¬ (0≤(rates.getD i []).getD j 0∧(rates.getD i []).getD j 0≤1000000000) by omega)];rfl
     by_cases c3:(rates.getD i []).getD j 0 > 1000000000
     ·rw [decide_eq_false c2,decide_eq_true c3,decide_eq_false (show ¬ (0≤(rates.getD i []).getD j 0∧(rates.getD i []).getD j 0≤1000000000) by omega)];rfl
     rw [decide_eq_false c2,decide_eq_false c3,decide_eq_true (show 0≤(rates.getD i []).getD j 0∧(rates.getD i []).getD j 0≤1000000000 by omega)];rfl
    ·show Lam (n+1) _ _ _ _ _=_
     rw [qLam,decide_eq_true (show (0:Int)≤(i:Int) by omega),decide_eq_true (show (i:Int) < (rates.length:Int) by omega)]
     simp only [cond_true,Int.toNat_natCast]
     rw [decide_eq_false (show ¬ ((rates.getD i []).length:Int) < ((rates.getD i []).length:Int) by omega)]
     rfl
   rw [qLao,decide_eq_true (show (i:Int) < (rates.length:Int) by omega),decide_eq_true (show (0:Int)≤(i:Int) by omega),decide_eq_true (show (i:Int) < (flows.length:Int) by omega),up1 (by omega)]
   simp only [cond_true,Int.toNat_natCast]
   rw [bne_len]
   simp only [cond_nb]
   by_cases c:(rates.getD i []).length=(flows.getD i []).length
   ·rw [decide_eq_true c,h16 c]
    simp only [cond_true]
    cases upto 1000000000 (rates.getD i [])<;>rfl
   ·rw [decide_eq_false c];rfl
  ·show Lao (n+1) _ _ _ _=_
   rw [qLao,decide_eq_false (show ¬ (rates.length:Int) < (rates.length:Int) by omega)]
   rfl
 rw [hL]
 simp only [cond_true,Bool.true_and]
 cases (List.range rates.length).all fun i=>cond (decide ((rates.getD i []).length=(flows.getD i []).length)) (upto 1000000000 (rates.getD i [])) false<;>rfl
theorem sumN_single {n p:Nat} {f:Nat→Int} (hp:p < n) (h:∀ i,i < n→i≠p→f i=0):sumN n f=f p:=by
 induction n with
 | zero=>omega
 | succ n ih=>
  simp only [sumN]
  by_cases e:n=p
  ·subst e
   rw [sumN_congr (g:=fun _=>0) fun i hi=>h i (by omega) (by omega),sumN_zero];omega
  ·rw [ih (by omega) fun i hi hne=>h i (by omega) hne,h n (by omega) e];omega
theorem v55_eq (l:List Int) (hl:l.length≤20) (k:Int):v55 l k=some (l.any (·==k)):=by
 unfold v55
 have h0:=any_loop (m:=l.length) (by omega) (fun n j=>Lax n l k j) (fun j=>l.getD j 0==k) (fun n j hj=>by
  show Lax (n+1) _ _ _=_
  rw [qLax,decide_eq_true (show (j:Int) < (l.length:Int) by omega),decide_eq_true (show (0:Int)≤(j:Int) by omega),up1 (by omega)]
  simp only [cond_true,Int.toNat_natCast]) fun n=>by
  show Lax (n+1) _ _ _=_
  rw [qLax,decide_eq_false (show ¬ (l.length:Int) < (l.length:Int) by omega)]
  rfl
 rw [any_range l 0 fun x=>x==k] at h0
 rw [h0]
 cases l.any fun x=>x==k<;>rfl
section
variable {caps : List Int} {flows : Fl} {rates : List (List Int)} {prices : List Int} (h : Ok caps flows rates prices)
include h
theorem pk_at {i t:Nat} (hi:i < flows.length) (ht:t < (flows.getD i []).length) (r:Int) (k:Nat):pk (pth flows i t) r k=cond ((pth flows i t).any (·==(k:Int))) r 0:=by
 unfold pk
 cases ha:(pth flows i t).any (·==(k:Int)) with
 | true=>
  rw [← any_range (pth flows i t) 0 fun x=>x==(k:Int)] at ha
  obtain ⟨p,hp,he⟩:=List.any_eq_true.1 ha
  have hp':=List.mem_range.1 hp
  rw [sumN_single hp' (fun j hj hne=>?_),he]
  have he':(pth flows i t).getD p 0=(k:Int):=by simpa using he
  have hd:(pth flows i t).getD j 0≠(k:Int):=by
   intro e
   by_cases hlt:j < p
   ·have:=h.inc i t j p hi ht hlt hp';omega
   ·have:=h.inc i t p j hi ht (by omega) hj;omega
  rw [beq_false_of_ne hd];rfl
 | false=>
  rw [sumN_congr (g:=fun _=>0) (fun j hj=>?_),sumN_zero];rfl
  have:=List.any_eq_false.1 ha _ (getD_in hj 0)
  rw [Bool.eq_false_iff.2 this];rfl
theorem l35_16 {i:Nat} (hi:i < flows.length) (k:Nat) (s:Int) (hs:0≤s∧s≤20*(20*(20*1000000000))) :
  Laf FU rates (k:Int) s (i:Int) 0 caps flows=some (s+sumN (flows.getD i []).length fun t=>pk (pth flows i t) (rt rates i t) k):=by
 have h4:=(h.sub i hi).2
 have hrl:=h.rli i hi
 have hr:=h.rl
 have:=at_loop (m:=(flows.getD i []).length) (by omega) (fun n j (s:Int)=>Laf n rates (k:Int) s (i:Int) j caps flows) (fun j=>s+sumN j fun t=>pk (pth flows i t) (rt rates i t) k)
  (s+sumN (flows.getD i []).length fun t=>pk (pth flows i t) (rt rates i t) k) (fun n j hj=>?_) fun n=>?_
 ·simp only [sumN,Int.add_zero] at this
  exact this
 ·show Laf (n+1) _ _ _ _ _ _ _=Laf n _ _ _ _ _ _ _
  have hb:=sub_bd h (i:=i) (j:=j+1) (by omega) k
  have hb0:=sub_bd h (i:=i) (j:=j) (by omega) k
  have hh:=(h.hop i j hi hj).2
  have hp:=pk_at h hi hj (rt rates i j) k
  have hrt:rt rates i j=(rates.getD i []).getD j 0:=rfl
  have hrb:=h.rate i j
  rw [qLaf,decide_eq_true (show (0:Int)≤(i:Int) by omega),decide_eq_true (show (i:Int) < (flows.length:Int) by omega)]
  simp only [cond_true,Int.toNat_natCast]
  rw [decide_eq_true (show (j:Int) < ((flows.getD i []).length:Int) by omega),decide_eq_true (show (0:Int)≤(j:Int) by omega),decide_eq_true (show (i:Int) < (rates.length:Int) by omega),decide_eq_true (show (j:Int) < ((rates.getD i []).length:Int) by omega),v55_eq _ (show (pth flows i j).length≤20 by omega),up1 (by omega)]
  simp only [cond_true,ok_some,val_some]
  simp only [sumN] at hb ⊢
  rw [hp] at hb ⊢
  cases (pth flows i j).any (·==(k:Int)) with
  | true=>
   simp only [cond_true] at hb ⊢
   rw [wrap_id (by omega) (by omega)]
   congr 1
   omega
  | false=>simp only [cond_false,Int.add_zero]
 ·show Laf (n+1) _ _ _ _ _ _ _=_
  rw [qLaf,decide_eq_true (show (0:Int)≤(i:Int) by omega),decide_eq_true (show (i:Int) < (flows.length:Int) by omega)]
  simp only [cond_true,Int.toNat_natCast]
  rw [decide_eq_false (show ¬ ((flows.getD i []).length:Int) < ((flows.getD i []).length:Int) by omega)]
  rfl
theorem v35_eq (k:Nat):v35 caps flows rates (k:Int)=some (loadS flows rates k):=by
 have hf:=h.few.hf
 have h0:Lai FU rates (k:Int) 0 0 caps flows=some (loadS flows rates k):=by
  refine at_loop (m:=flows.length) (by omega) (fun n j (s:Int)=>Lai n rates (k:Int) s j caps flows) (fun j=>sumN j fun i=>sumN (flows.getD i []).length fun t=>pk (pth flows i t) (rt rates i t) k) (loadS flows rates k) (fun n i hi=>?_) fun n=>?_
  ·show Lai (n+1) _ _ _ _ _ _=Lai n _ _ _ _ _ _
   rw [qLai,decide_eq_true (show (i:Int) < (flows.length:Int) by omega),l35_16 h hi k _ (load_bd h (by omega) k),up1 (by omega)]
   rfl
  ·show Lai (n+1) _ _ _ _ _ _=_
   rw [qLai,decide_eq_false (show ¬ (flows.length:Int) < (flows.length:Int) by omega)]
   rfl
 unfold v35
 rw [h0];rfl
theorem v18_eq:v18 caps flows rates=some (carriesS caps flows rates):=by
 have hc:=h.few.hc
 have h0:Lae FU rates 0 caps flows=some (cond (carriesS caps flows rates) (.inr ()) (.inl false)):=by
  unfold carriesS
  refine all_loop (m:=caps.length) (by omega) (fun n j=>Lae n rates j caps flows) _ (fun n k hk=>?_) fun n=>?_
  ·show Lae (n+1) _ _ _ _=_
   have hcap:=h.cap k
   have w1:IntKind.wrap IntKind.i64 (1000000*caps.getD k 0)=1000000*caps.getD k 0:=wrap_id (by omega) (by omega)
   rw [qLae,v35_eq h k,decide_eq_true (show (k:Int) < (caps.length:Int) by omega),decide_eq_true (show (0:Int)≤(k:Int) by omega),up1 (by omega)]
   simp only [cond_true,Int.toNat_natCast,ok_some,val_some,w1]
   by_cases c:loadS flows rates k≤1000000*caps.getD k 0
   ·rw [decide_eq_true c,decide_eq_false (show ¬ loadS flows rates k > 1000000*caps.getD k 0 by omega)];rfl
   ·rw [decide_eq_false c,decide_eq_true (show loadS flows rates k > 1000000*caps.getD k 0 by omega)];rfl
  ·show Lae (n+1) _ _ _ _=_
   rw [qLae,decide_eq_false (show ¬ (caps.length:Int) < (caps.length:Int) by omega)]
   rfl
 unfold v18
 rw [h0]
 cases carriesS caps flows rates<;>rfl
end
theorem gapS_ok {caps:List Int} {flows:Fl} {rates:List (List Int)} {prices:List Int} (h:(gapS caps flows rates prices).2=0) :
  validS caps flows=true∧ratesS flows rates=true∧pricesS caps prices=true∧soundS caps flows rates prices=true∧(gapS caps flows rates prices).1=max 0 (costS caps prices - 1000000*(flows.length:Int)):=by
 unfold gapS at*
 cases h1:validS caps flows with
 | false=>rw [h1] at h;simp at h
 | true=>
  cases h2:ratesS flows rates with
  | false=>rw [h1,h2] at h;simp at h
  | true=>
   cases h3:pricesS caps prices with
   | false=>rw [h1,h2,h3] at h;simp at h
   | true=>
    cases h4:soundS caps flows rates prices with
    | false=>rw [h1,h2,h3,h4] at h;simp at h
    | true=>
     rw [h1,h2,h3,h4] at h
     simp only [Bool.and_self,cond_true] at h ⊢
     by_cases c:max 0 (costS caps prices - 1000000*(flows.length:Int))≤1000000000000
     ·rw [decide_eq_true c];simp
     ·rw [decide_eq_false c] at h;simp at h
section
variable {caps : List Int} {flows : Fl} {rates : List (List Int)} {prices : List Int} (h : Ok caps flows rates prices)
include h
theorem price_links {i t:Nat} (hi:i < flows.length) (ht:t < (flows.getD i []).length) (y:Int):priceS (pth flows i t) prices*y=sumN caps.length fun k=>prices.getD k 0*pk (pth flows i t) y k:=by
 unfold pk priceS
 have e1:(sumN caps.length fun k=>prices.getD k 0*sumN (pth flows i t).length fun j=>cond ((pth flows i t).getD j 0==(k:Int)) y 0)=sumN caps.length fun k=>sumN (pth flows i t).length fun j=>prices.getD k 0*cond ((pth flows i t).getD j 0==(k:Int)) y 0:=
  sumN_congr fun k _=>(sumN_mul _ _ _).symm
 rw [e1,sumN_swap,← sumN_mul']
 apply sumN_congr
 intro j hj
 have hl:=h.link i t j hi ht hj
 have hp:Int.toNat ((pth flows i t).getD j 0) < caps.length:=by omega
 rw [sumN_single hp fun k hk hne=>by
  rw [beq_false_of_ne (show (pth flows i t).getD j 0≠(k:Int) by omega)]
  simp only [cond_false,Int.mul_zero]]
 rw [show ((pth flows i t).getD j 0==((Int.toNat ((pth flows i t).getD j 0):Nat):Int))=true by rw [beq_iff_eq];omega]
 simp only [cond_true]
theorem pay_links:(sumN flows.length fun i=>sumN (flows.getD i []).length fun t=>priceS (pth flows i t) prices*rt rates i t)=sumN caps.length fun k=>prices.getD k 0*loadS flows rates k:=by
 have e1:(sumN flows.length fun i=>sumN (flows.getD i []).length fun t=>priceS (pth flows i t) prices*rt rates i t)=sumN flows.length fun i=>sumN caps.length fun k=>prices.getD k 0*sumN (flows.getD i []).length fun t=>pk (pth flows i t) (rt rates i t) k:=by
  apply sumN_congr
  intro i hi
  have e2:(sumN (flows.getD i []).length fun t=>priceS (pth flows i t) prices*rt rates i t)=sumN (flows.getD i []).length fun t=>sumN caps.length fun k=>prices.getD k 0*pk (pth flows i t) (rt rates i t) k:=
   sumN_congr fun t ht=>price_links h hi ht _
  rw [e2,sumN_swap]
  exact sumN_congr fun k _=>sumN_mul _ _ _
 rw [e1,sumN_swap]
 apply sumN_congr
 intro k _
 unfold loadS
 rw [← sumN_mul]
theorem pay_le (hc:carriesS caps flows rates=true):(sumN flows.length fun i=>sumN (flows.getD i []).length fun t=>priceS (pth flows i t) prices*rt rates i t)≤1000000*costS caps prices:=by
 rw [pay_links h]
 unfold costS
 rw [h.pl,← sumN_mul]
 apply sumN_le
 intro k hk
 have h1:=List.all_eq_true.1 hc k (List.mem_range.2 hk)
 have h2:=h.price k
 have h3:prices.getD k 0*loadS flows rates k≤prices.getD k 0*(1000000*caps.getD k 0):=Int.mul_le_mul_of_nonneg_left (by simpa using h1) h2.1
 have h4:prices.getD k 0*(1000000*caps.getD k 0)=1000000*(prices.getD k 0*caps.getD k 0):=by rw [← Int.mul_assoc,Int.mul_comm (prices.getD k 0) 1000000,Int.mul_assoc]
 rw [← h4];exact h3
omit h in
theorem tot_pos (h:Ok caps flows rates prices) (hs:paysS flows rates prices=true) {i:Nat} (hi:i < flows.length):1≤totS (rates.getD i [])∧∀ t,t < (flows.getD i []).length→1000000000000≤priceS (pth flows i t) prices*totS (rates.getD i []):=by
 have h1:=List.all_eq_true.1 hs i (List.mem_range.2 hi)
 have h2:∀ t,t < (flows.getD i []).length→1000000000000≤priceS (pth flows i t) prices*totS (rates.getD i []):=fun t ht=>by simpa using List.all_eq_true.1 h1 t (List.mem_range.2 ht)
 refine ⟨?_,h2⟩
 have h3:=h2 0 (by have:=(h.sub i hi).1;omega)
 have h4:=totS_bd h i
 by_cases c:totS (rates.getD i [])=0
 ·rw [c,Int.mul_zero] at h3;omega
 ·omega
end
theorem bound {caps:List Int} {flows:Fl} {rates other:List (List Int)} {prices:List Int} (h:Ok caps flows rates prices) (h':Ok caps flows other prices) (hs:paysS flows rates prices=true) (hc:carriesS caps flows other=true) :
  (sumN flows.length fun i=>Int.tdiv (1000000*totS (other.getD i [])) (totS (rates.getD i [])))≤costS caps prices:=by
 have h1:=pay_le h' hc
 have h2:(sumN flows.length fun i=>1000000*Int.tdiv (1000000*totS (other.getD i [])) (totS (rates.getD i [])))≤sumN flows.length fun i=>sumN (flows.getD i []).length fun t=>priceS (pth flows i t) prices*rt other i t:=by
  apply sumN_le
  intro i hi
  obtain ⟨hx,hp⟩:=tot_pos h hs hi
  have hy:=totS_bd h' i
  generalize hX:totS (rates.getD i [])=x at*
  have hq:Int.tdiv (1000000*totS (other.getD i [])) x*x≤1000000*totS (other.getD i []):=by
   rw [Int.tdiv_eq_ediv_of_nonneg (by omega)]
   exact Int.ediv_mul_le _ (by omega)
  generalize Int.tdiv (1000000*totS (other.getD i [])) x=q at*
  have hS:1000000000000*totS (other.getD i [])≤(sumN (flows.getD i []).length fun t=>priceS (pth flows i t) prices*rt other i t)*x:=by
   unfold totS
   rw [h'.rli i hi,← sumN_mul,← sumN_mul']
   apply sumN_le
   intro t ht
   have hr:=h'.rate i t
   have:=Int.mul_le_mul_of_nonneg_right (hp t ht) hr.1
   have e:priceS (pth flows i t) prices*x*rt other i t=priceS (pth flows i t) prices*rt other i t*x:=by rw [Int.mul_assoc,Int.mul_comm x,← Int.mul_assoc]
   rw [e] at this
   exact this
  generalize (sumN (flows.getD i []).length fun t=>priceS (pth flows i t) prices*rt other i t)=S at*
  apply Int.le_of_mul_le_mul_right (a:=x) (h:=by omega)
  calc 1000000*q*x=1000000*(q*x):=Int.mul_assoc _ _ _
   _≤1000000*(1000000*totS (other.getD i [])):=Int.mul_le_mul_of_nonneg_left hq (by omega)
   _=1000000000000*totS (other.getD i []):=by omega
   _≤S*x:=hS
 rw [sumN_mul] at h2
 omega
theorem quo_bd {x y:Int} (hx:1≤x) (hy:0≤y∧y≤20*1000000000):0≤Int.tdiv (1000000*y) x∧Int.tdiv (1000000*y) x≤1000000*(20*1000000000):=by
 rw [Int.tdiv_eq_ediv_of_nonneg (by omega)]
 refine ⟨Int.ediv_nonneg (by omega) (by omega),?_⟩
 exact Int.le_trans (Int.ediv_le_self _ (by omega)) (by omega)
def sI (flows:Fl) (rates:List (List Int)) (i k:Nat) (s:Int):Nat→Int
 | 0=>s
 | j+1=>cond ((pth flows i j).any (·==(k:Int))) (IntKind.wrap IntKind.i64 (sI flows rates i k s j+rt rates i j)) (sI flows rates i k s j)
def sL (flows:Fl) (rates:List (List Int)) (k:Nat):Nat→Int
 | 0=>0
 | i+1=>sI flows rates i k (sL flows rates k i) (flows.getD i []).length
section
variable {caps : List Int} {flows : Fl} {rates : List (List Int)} (hc : caps.length ≤ 20) (hf : flows.length ≤ 20) (hs : ∀ i, (flows.getD i []).length ≤ 20) (hp : ∀ i t, (pth flows i t).length ≤ 20) (hr : rates.length = flows.length) (hri : ∀ i, i < flows.length → (rates.getD i []).length = (flows.getD i []).length)
include hf hs hp hr hri
theorem l35_tot {i:Nat} (hi:i < flows.length) (k:Nat) (s:Int):Laf FU rates (k:Int) s (i:Int) 0 caps flows=some (sI flows rates i k s (flows.getD i []).length):=by
 have h4:=hs i
 have hrl:=hri i hi
 refine at_loop (m:=(flows.getD i []).length) (by omega) (fun n j (s:Int)=>Laf n rates (k:Int) s (i:Int) j caps flows) (sI flows rates i k s) _ (fun n j hj=>?_) fun n=>?_
 ·show Laf (n+1) _ _ _ _ _ _ _=Laf n _ _ _ _ _ _ _
  have hh:=hp i j
  rw [qLaf,decide_eq_true (show (0:Int)≤(i:Int) by omega),decide_eq_true (show (i:Int) < (flows.length:Int) by omega)]
  simp only [cond_true,Int.toNat_natCast]
  rw [decide_eq_true (show (j:Int) < ((flows.getD i []).length:Int) by omega),decide_eq_true (show (0:Int)≤(j:Int) by omega),decide_eq_true (show (i:Int) < (rates.length:Int) by omega),decide_eq_true (show (j:Int) < ((rates.getD i []).length:Int) by omega),v55_eq _ hh,up1 (by omega)]
  simp only [cond_true,ok_some,val_some,sI]
  cases (pth flows i j).any (·==(k:Int))<;>rfl
 ·show Laf (n+1) _ _ _ _ _ _ _=_
  rw [qLaf,decide_eq_true (show (0:Int)≤(i:Int) by omega),decide_eq_true (show (i:Int) < (flows.length:Int) by omega)]
  simp only [cond_true,Int.toNat_natCast]
  rw [decide_eq_false (show ¬ ((flows.getD i []).length:Int) < ((flows.getD i []).length:Int) by omega)]
  rfl
theorem v35_tot (k:Nat):v35 caps flows rates (k:Int)=some (sL flows rates k flows.length):=by
 have h0:Lai FU rates (k:Int) 0 0 caps flows=some (sL flows rates k flows.length):=by
  refine at_loop (m:=flows.length) (by omega) (fun n j (s:Int)=>Lai n rates (k:Int) s j caps flows) (sL flows rates k) _ (fun n i hi=>?_) fun n=>?_
  ·show Lai (n+1) _ _ _ _ _ _=Lai n _ _ _ _ _ _
   rw [qLai,decide_eq_true (show (i:Int) < (flows.length:Int) by omega),l35_tot hf hs hp hr hri hi k _,up1 (by omega)]
   rfl
  ·show Lai (n+1) _ _ _ _ _ _=_
   rw [qLai,decide_eq_false (show ¬ (flows.length:Int) < (flows.length:Int) by omega)]
   rfl
 unfold v35
 rw [h0];rfl
include hc
theorem v18_tot:∃ b,v18 caps flows rates=some b:=by
 have h0:Lae FU rates 0 caps flows=some (cond ((List.range caps.length).all fun k=>!decide (sL flows rates k flows.length > IntKind.wrap IntKind.i64 (1000000*caps.getD k 0))) (.inr ()) (.inl false)):=by
  refine all_loop (m:=caps.length) (by omega) (fun n j=>Lae n rates j caps flows) _ (fun n k hk=>?_) fun n=>?_
  ·show Lae (n+1) _ _ _ _=_
   rw [qLae,v35_tot hf hs hp hr hri k,decide_eq_true (show (k:Int) < (caps.length:Int) by omega),decide_eq_true (show (0:Int)≤(k:Int) by omega),up1 (by omega)]
   simp only [cond_true,Int.toNat_natCast,ok_some,val_some,cond_nb]
   rfl
  ·show Lae (n+1) _ _ _ _=_
   rw [qLae,decide_eq_false (show ¬ (caps.length:Int) < (caps.length:Int) by omega)]
   rfl
 unfold v18
 rw [h0]
 cases ((List.range caps.length).all fun k=>!decide (sL flows rates k flows.length > IntKind.wrap IntKind.i64 (1000000*caps.getD k 0))) with
 | false=>exact ⟨_,rfl⟩
 | true=>exact ⟨_,rfl⟩
end
theorem tot_one {l:List Int} (h:l.length=1):totS l=l.getD 0 0:=by
 unfold totS;rw [h];simp [sumN]
theorem v4_true {caps:List Int} {flows:List (List Int)} {lim:List Int} {x3:Int} {other:List (List Int)} (hl:Len flows) (a:0≤x3∧x3≤255):v4 caps flows lim x3 other=some true:=by
 have hv:v11=some true:=rfl
 unfold v4
 rw [v12_eq hl]
 simp only [ok_some,val_some,cond_true,cond_nb,hv]
 cases h:fewN caps flows lim with
 | false=>rfl
 | true=>
  simp only [cond_true]
  obtain ⟨h1,h2,h3,h4⟩:=fewN_iff h
  have hf0:=few_net (rates:=[]) (prices:=[]) h1 h2 h4 (by simp) (by simp) (by simp)
  rw [v17_eq caps lim h2]
  simp only [ok_some,val_some,cond_true]
  rw [v16_eq (by rw [net_len];exact h2) hf0.flow]
  simp only [ok_some,val_some,cond_true]
  cases hro:ratesS (netS flows) other with
  | false=>rfl
  | true=>
   simp only [cond_true]
   have hro':=hro
   unfold ratesS at hro'
   rw [Bool.and_eq_true,decide_eq_true_iff] at hro'
   have hol:other.length=flows.length:=by rw [hro'.1,net_len]
   have hoi:∀ i,i < flows.length→(other.getD i []).length=1∧upto 1000000000 (other.getD i [])=true:=fun i hi=>by
    have:=List.all_eq_true.1 hro'.2 i (List.mem_range.2 (by omega))
    rw [net_get hi] at this
    by_cases c:(other.getD i []).length=[flows.getD i []].length
    ·rw [decide_eq_true c] at this;exact ⟨c,this⟩
    ·rw [decide_eq_false c] at this;cases this
   obtain ⟨b,hb⟩:=v18_tot (caps:=caps) (flows:=netS flows) (rates:=other) h1 (by rw [net_len];exact h2) hf0.flow hf0.path hro'.1 fun i hi=>by
    rw [net_len] at hi
    rw [net_get hi];exact (hoi i hi).1
   rw [hb]
   simp only [ok_some,val_some,cond_true]
   cases b with
   | false=>rfl
   | true=>
    simp only [cond_true]
    have hL:LaW x3 other true caps flows lim=some true:=by
     unfold LaW
     rw [tmod31 a,solve_eq _ h]
     simp only [ok_some,val_some,cond_true]
     by_cases c:(solveS caps flows lim (x3 % 31)).2.2.2=0
     ·obtain ⟨s1,s2,hva,hn,hf,s5⟩:=solve_ok c
      obtain ⟨ws,hw,hp0,hb1,hb2,hb3⟩:=best_ok hn hf hva (x3 % 31).toNat
      have hpl:(pricesL caps ws flows).length≤20:=by unfold pricesL;rw [List.length_map,hw.len];omega
      have hrl:(ratesL caps ws flows).length=flows.length:=List.length_map _
      rw [hb1,hb2] at hb3
      have hri:∀ i,((ratesL caps ws flows).getD i []).length≤20:=fun i=>by
       unfold ratesL;rw [getD_map _ flows [] []];split<;>simp
      have hfew:Few caps (netS flows) (ratesL caps ws flows) (pricesL caps ws flows):=few_net h1 h2 h4 (by omega) hri hpl
      obtain ⟨_,g2,g3,g4,g5⟩:=gapS_ok (by rw [hb3]:(gapS caps (netS flows) (ratesL caps ws flows) (pricesL caps ws flows)).2=0)
      rw [hb3,net_len] at g5
      have g5:(bestN caps flows (x3 % 31).toNat).2.2=max 0 (costS caps (pricesL caps ws flows) - 1000000*(flows.length:Int)):=g5
      have hok:=ok_of hfew hva g2 g3
      have hfew2:Few caps (netS flows) other (pricesL caps ws flows):=few_net h1 h2 h4 (by omega) (fun i=>by
       by_cases hi:i < flows.length
       ·have:=(hoi i hi).1;omega
       ·rw [List.getD_eq_getElem?_getD,List.getElem?_eq_none (by omega)];simp) hpl
      have hok2:=ok_of hfew2 hva hro g3
      have hcar:carriesS caps (netS flows) other=true:=by
       have:=v18_eq hok2
       rw [hb] at this
       exact (Option.some.inj this).symm
      have hpay:paysS (netS flows) (ratesL caps ws flows) (pricesL caps ws flows)=true:=pays_ok hn hw hp0
      have hbd:=bound hok hok2 hpay hcar
      rw [net_len] at hbd
      have hterm:∀ i,i < flows.length→Int.tdiv (1000000*totS (other.getD i [])) (totS ((ratesL caps ws flows).getD i []))=Int.tdiv (1000000*(other.getD i []).getD 0 0) (rateS caps ws flows (flows.getD i [])):=fun i hi=>by
       rw [tot_one (hoi i hi).1,rates_get caps ws hi,tot_one (by simp)];rfl
      rw [sumN_congr hterm] at hbd
      have hx1:∀ i,i < flows.length→1≤rateS caps ws flows (flows.getD i []):=fun i hi=>(pay_ok hn hw hp0 (fget flows hi)).1
      have hy:∀ i,i < flows.length→0≤(other.getD i []).getD 0 0∧(other.getD i []).getD 0 0≤1000000000:=fun i hi=>upto_get (by omega) (hoi i hi).2 0
      have hq:∀ i,i < flows.length→0≤Int.tdiv (1000000*(other.getD i []).getD 0 0) (rateS caps ws flows (flows.getD i []))∧Int.tdiv (1000000*(other.getD i []).getD 0 0) (rateS caps ws flows (flows.getD i []))≤1000000*(20*1000000000):=fun i hi=>quo_bd (hx1 i hi) (by have:=hy i hi;omega)
      have h0:∀ pr g,Lah FU other true 0 (other.length:Int) 0 (ratesL caps ws flows) pr g=some (.inr (sumN flows.length fun i=>Int.tdiv (1000000*(other.getD i []).getD 0 0) (rateS caps ws flows (flows.getD i [])))):=fun pr g=>by
       refine at_loop (m:=flows.length) (by omega) (fun n j (s:Int)=>Lah n other true s (other.length:Int) j (ratesL caps ws flows) pr g) (fun j=>sumN j fun i=>Int.tdiv (1000000*(other.getD i []).getD 0 0) (rateS caps ws flows (flows.getD i []))) _ (fun n i hi=>?_) fun n=>?_
       ·show Lah (n+1) _ _ _ _ _ _ _ _=Lah n _ _ _ _ _ _ _ _
        have hbs:∀ j,j≤flows.length→0≤(sumN j fun i=>Int.tdiv (1000000*(other.getD i []).getD 0 0) (rateS caps ws flows (flows.getD i [])))∧(sumN j fun i=>Int.tdiv (1000000*(other.getD i []).getD 0 0) (rateS caps ws flows (flows.getD i [])))≤20*(1000000*(20*1000000000)):=fun j hj=>
         sumN_bd (m:=20) (by omega) (fun q hqq=>hq q (by omega)) (by omega)
        have b1:=hbs (i+1) (by omega)
        have b0:=hbs i (by omega)
        simp only [sumN] at b1
        have e:LaO other true (sumN i fun i=>Int.tdiv (1000000*(other.getD i []).getD 0 0) (rateS caps ws flows (flows.getD i []))) (i:Int) (other.length:Int) (i:Int) (ratesL caps ws flows) pr g=some (.inr (sumN (i+1) fun i=>Int.tdiv (1000000*(other.getD i []).getD 0 0) (rateS caps ws flows (flows.getD i [])))):=by
         unfold LaO
         have y1:=hy i hi
         have x1:=hx1 i hi
         have hol1:=(hoi i hi).1
         rw [decide_eq_true (show (0:Int)≤(i:Int) by omega),decide_eq_true (show (i:Int) < ((ratesL caps ws flows).length:Int) by omega),decide_eq_true (show (i:Int) < (other.length:Int) by omega),Int.toNat_natCast,rates_get caps ws hi,hol1]
         have w1:IntKind.wrap IntKind.i64 (1000000*(other.getD i []).getD 0 0)=1000000*(other.getD i []).getD 0 0:=wrap_id (by omega) (by omega)
         have q1:=hq i hi
         have w2:IntKind.wrap IntKind.i64 (Int.tdiv (1000000*(other.getD i []).getD 0 0) (rateS caps ws flows (flows.getD i [])))=Int.tdiv (1000000*(other.getD i []).getD 0 0) (rateS caps ws flows (flows.getD i [])):=wrap_id (by omega) (by omega)
         show cond false (some (Sum.inl false)) (cond true (cond false (some (Sum.inl false)) (cond true (cond (decide (rateS caps ws flows (flows.getD i []) < 1)) (some (Sum.inl false)) (cond true (cond (decide (rateS caps ws flows (flows.getD i [])≠0)) (some (Sum.inr (α:=Bool) (IntKind.wrap IntKind.i64 (_+IntKind.wrap IntKind.i64 (Int.tdiv (IntKind.wrap IntKind.i64 (1000000*(other.getD i []).getD 0 0)) (rateS caps ws flows (flows.getD i [])))))) ) none) none)) none)) none)=_
         rw [w1,w2,decide_eq_false (show ¬ rateS caps ws flows (flows.getD i []) < 1 by omega),decide_eq_true (show rateS caps ws flows (flows.getD i [])≠0 by omega),wrap_id (by omega) (by omega)]
         rfl
        rw [qLah,decide_eq_true (show (i:Int) < (other.length:Int) by omega),up1 (by omega),e]
        rfl
       ·show Lah (n+1) _ _ _ _ _ _ _ _=_
        rw [qLah,decide_eq_false (show ¬ (flows.length:Int) < (other.length:Int) by omega)]
        rfl
      have hco:0≤costS caps (pricesL caps ws flows)∧costS caps (pricesL caps ws flows)≤20*(1000000000000*1000):=cost_bd hok (j:=(pricesL caps ws flows).length) hfew.hp
      have e:∀ g,g=max 0 (costS caps (pricesL caps ws flows) - 1000000*(flows.length:Int))→LaV other true (ratesL caps ws flows) (pricesL caps ws flows) g=some true:=fun g hg=>by
       unfold LaV LaX
       rw [h0,hrl,hol,wrap_id (x:=1000000*(flows.length:Int)) (by omega) (by omega),wrap_id (x:=1000000*(flows.length:Int)+g) (by omega) (by omega)]
       show cond ((flows.length:Int) != (flows.length:Int)) (some false) (cond true (some (decide (sumN flows.length (fun i=>Int.tdiv (1000000*(other.getD i []).getD 0 0) (rateS caps ws flows (flows.getD i [])))≤1000000*(flows.length:Int)+g))) none)=_
       rw [decide_eq_true (by omega)]
       simp
      rw [s5,hb1,hb2]
      show cond ((0:Int) != 0) (some true) (cond (ok (LaV other true (ratesL caps ws flows) (pricesL caps ws flows) (bestN caps flows (x3 % 31).toNat).2.2)) (some (val (LaV other true (ratesL caps ws flows) (pricesL caps ws flows) (bestN caps flows (x3 % 31).toNat).2.2))) none)=_
      rw [e _ g5];rfl
     ·rw [show ((solveS caps flows lim (x3 % 31)).2.2.2 != 0)=true by simpa using c];rfl
    rw [hL];rfl
end Go.Proofs.Ytgmebdomopdgmaa
set_option maxRecDepth 100000
namespace Go.Proofs.Ytgmebdomopdgmaa
open Go Go.ChangeShapes Go.WideShapes Go.ChangeAt Go.RowKit Go.AM Go.TM
theorem own0:ownKnob Try.prog.godebug=none:=by kernel_rfl
theorem laid0:laidOutB Try.prog=true:=by kernel_rfl
abbrev taus:List Ty:=[.pair (.list 3 (.int .i64)) (.pair (.list 22 (.list 3 (.int .i64))) (.list 3 (.int .i64))),.int .u8,.list 22 (.list 3 (.int .i64))]
theorem args0 (x:(List Int×List (List Int)×List Int)×Int×List (List Int)×Unit):Vi Try.prog Try.f4.params.toList taus x=[.agg [.d 3 (.int .i64) x.1.1,.d 22 (.list 3 (.int .i64)) x.1.2.1,.d 3 (.int .i64) x.1.2.2],.sc (.int .u8 x.2.1),.sc (.d 22 (.list 3 (.int .i64)) x.2.2.1)]:=by
 kernel_rfl
theorem law_run:∀ x:Tup taus,InTup taus x→∃ k H',TM.evF Try.prog (zh base o115 t115) dOk k 4 (Vi Try.prog Try.f4.params.toList taus x) []=some ([.sc (.bool true)],H'):=by
 intro x hx
 have h1:0≤(show Int from x.2.1):=(hx.2.1).1
 have k1:(show Int from x.2.1)≤255:=(hx.2.1).2
 have e:=args0 x
 rw [e]
 refine ⟨41,[],?_⟩
 rw [zu (by kernel_rfl),ev4,v4_true (show Len (show List (List Int) from x.1.2.1) from (hx.1).2.1.1) ⟨h1,k1⟩]
 rfl
theorem law_lifted (os:Os) (started:os.Started) (H:Type) (enc:TypeId×Value→H) :
  ReturnsInHanded {} Try.checked os 4 .any (Rows.fairBoundSpec.pre6 enc Try.prog Try.f4 Rows.fairBoundRow.domain false) (Rows.fairBoundSpec.post enc Try.prog Try.f4 false true false false):=
 law_tm (C:=Try.checked) (τs:=taus) (tb:=4) (base:=base) (O:=o115) (T:=t115) own0 started (by kernel_rfl) Try.func4
  (ChangeSpec.witness6 (enc:=enc) (C:=Try.checked) false ⟨#[],#[.agg #[.slice none 0 0,.slice none 0 0,.slice none 0 0],.int .u8 0,.slice none 0 0],[]⟩ 8 (by kernel_rfl) (by kernel_rfl) (by kernel_rfl) (by kernel_rfl))
  laid0 (by kernel_rfl) (by kernel_rfl) rfl (by kernel_rfl) names mixed ok115 (by kernel_rfl) (by kernel_rfl)
  (fun ds h=>by
   match ds,h with
   | [_,_,_],_=>rfl)
  law_run
theorem fairBound_holds:Rows.FairBoundSaid:=
 OpenClaim.holds_of_wide 4 Try.f4 rfl rfl rfl rfl rfl rfl rfl ⟨rfl,rfl,rfl,rfl,rfl⟩ rfl rfl rfl rfl rfl (by kernel_rfl) Try.func4 (by kernel_rfl)
  (of_decide_eq_true (by kernel_rfl)) (by unfold Func.isWrapper;first | (rw [if_pos (by decide +kernel)];kernel_rfl) | (rw [if_neg (by decide +kernel)];exact ⟨rfl,rfl⟩))
  (fun os started H enc _=>law_lifted os started H enc)
end Go.Proofs.Ytgmebdomopdgmaa
