/- MultiRounds: it returns true at every input; no conditions. -/
import Derived.Test.YtpfphfobneehmaaLMultiRounds1
import Derived.Test.YtpfphfobneehmaaRows
import Derived.ProofKit
set_option linter.all false
namespace Go.Proofs.Ytpfphfobneehmaa
open Go Go.AM Go.TM Go.Proofs
section
variable {caps : List Int} {flows : Fl} {rates : List (List Int)} {prices : List Int} (h : Ok caps flows rates prices)
include h
theorem v23_eq {i t:Nat} (hi:i < flows.length) (ht:t < (flows.getD i []).length):v23 (pth flows i t) prices=some (qo (pth flows i t) prices):=by
 have hl:=(h.hop i t hi ht).2
 have h0:jR FU (pth flows i t) prices 0 0=some (qo (pth flows i t) prices):=by
  refine qp (m:=(pth flows i t).length) (by omega) (fun n j (s:Int)=>jR n (pth flows i t) prices s j)
   (fun j=>qj j fun x=>prices.getD (Int.toNat ((pth flows i t).getD x 0)) 0) (qo (pth flows i t) prices) (fun n j hj=>?_) fun n=>?_
  ·show jR (n+1) _ _ _ _=jR n _ _ _ _
   have hk:=h.link i t j hi ht hj
   have hpl:=h.pl
   have hb:=qaJ h (i:=i) (t:=t) (j:=j+1) (by omega)
   have hs:qj (j+1) (fun x=>prices.getD (Int.toNat ((pth flows i t).getD x 0)) 0)=qj j (fun x=>prices.getD (Int.toNat ((pth flows i t).getD x 0)) 0)+prices.getD (Int.toNat ((pth flows i t).getD j 0)) 0:=rfl
   rw [qaS];unfold JU ck;rw [decide_eq_true (show (j:Int) < ((pth flows i t).length:Int) by omega),decide_eq_true (show (0:Int)<=(j:Int) by omega),up1 (by omega)]
   simp only [cond_true,Int.toNat_natCast]
   rw [decide_eq_true hk.1,decide_eq_true (show (pth flows i t).getD j 0 < (prices.length:Int) by omega),<- hs,qi (by omega) (by omega)]
   rfl
  ·show jR (n+1) _ _ _ _=_
   rw [qaS];unfold JU ck;rw [decide_eq_false (show ¬ ((pth flows i t).length:Int) < ((pth flows i t).length:Int) by omega)]
   rfl
 unfold v23 tv23;(repeat rewrite [obE])
 rw [h0];rfl
theorem l40_16 {i:Nat} (hi:i < flows.length) (hx:1<=qu (rates.getD i [])) :
  q6 FU rates prices (i:Int) (Int.tdiv (1000000000000+qu (rates.getD i []) - 1) (qu (rates.getD i []))) 0 caps flows=some (cond ((List.range (flows.getD i []).length).all fun t=>decide (1000000000000<=qo (pth flows i t) prices*qu (rates.getD i []))) (.inr ()) (.inl false)):=by
 have h4:=(h.sub i hi).2
 refine qB (m:=(flows.getD i []).length) (by omega) (fun n j=>q6 n rates prices (i:Int) (Int.tdiv (1000000000000+qu (rates.getD i []) - 1) (qu (rates.getD i []))) j caps flows) _ (fun n j hj=>?_) fun n=>?_
 ·show q6 (n+1) _ _ _ _ _ _ _=_
  have hp:=qdt h (i:=i) (t:=j)
  have hc:=KC (p:=qu (rates.getD i [])) (x:=qo (pth flows i j) prices) (c:=1000000000000) (by omega) hp.1 (by omega)
  rw [Int.mul_comm] at hc
  rw [Sf];unfold Jg ck;(repeat rewrite [obE]);rw [Int.toNat_natCast,Int.toNat_natCast,decide_eq_true (show (0:Int)<=(i:Int) by omega),decide_eq_true (show (i:Int) < (flows.length:Int) by omega),decide_eq_true (show (j:Int) < ((flows.getD i []).length:Int) by omega),decide_eq_true (show (0:Int)<=(j:Int) by omega),up1 (by omega),v23_eq h hi hj,qh,qf]
  simp only [cond_true]
  generalize hP:qo (pth flows i j) prices=p at*
  generalize hX:qu (rates.getD i [])=y at*
  by_cases c:p*y < 1000000000000
  ·rw [decide_eq_true (hc.2 c),decide_eq_false (show ¬ 1000000000000<=p*y by omega)];rfl
  ·rw [decide_eq_false (show ¬ _ from fun e=>c (hc.1 e)),decide_eq_true (show 1000000000000<=p*y by omega)];rfl
 ·show q6 (n+1) _ _ _ _ _ _ _=_
  rw [Sf];unfold Jg ck;(repeat rewrite [obE]);rw [decide_eq_true (show (0:Int)<=(i:Int) by omega),decide_eq_true (show (i:Int) < (flows.length:Int) by omega)]
  simp only [cond_true,Int.toNat_natCast]
  rw [decide_eq_false (show ¬ ((flows.getD i []).length:Int) < ((flows.getD i []).length:Int) by omega)]
  rfl
theorem v40_eq:v40 caps flows rates prices=some (gq caps flows rates prices):=by
 have hf:=h.few.hf
 have hr:=h.rl
 have h0:jG FU rates prices 0 caps flows=some (cond (Ga flows rates prices) (.inr ()) (.inl false)):=by
  unfold Ga
  refine qB (m:=flows.length) (by omega) (fun n j=>jG n rates prices j caps flows) _ (fun n i hi=>?_) fun n=>?_
  ·show jG (n+1) _ _ _ _ _=_
   have hx:=qeD h i
   have hl:=h.sub i hi
   have e1:=v21_eq h i
   have e16:=l40_16 h hi
   rw [qa7];unfold GB ck;(repeat rewrite [obE]);rw [Int.toNat_natCast,decide_eq_true (show (i:Int) < (flows.length:Int) by omega),decide_eq_true (show (0:Int)<=(i:Int) by omega),decide_eq_true (show (i:Int) < (rates.length:Int) by omega),up1 (by omega)]
   generalize v21 (rates.getD i [])=o1 at*
   subst e1
   rw [qh,qf]
   simp only [cond_true]
   by_cases c:qu (rates.getD i []) < 1
   ·rw [decide_eq_true c]
    have hz:qu (rates.getD i [])=0:=by omega
    have:((List.range (flows.getD i []).length).all fun t=>decide (1000000000000<=qo (pth flows i t) prices*qu (rates.getD i [])))=false:=by
     rw [Bool.eq_false_iff]
     intro ha
     have:=List.all_eq_true.1 ha 0 (List.mem_range.2 (by omega))
     rw [hz,Int.mul_zero] at this
     simp at this
    rw [this];rfl
   ·have w1:wI (1000000000000+qu (rates.getD i []))=1000000000000+qu (rates.getD i []):=qi (by omega) (by omega)
    have w2:wI (1000000000000+qu (rates.getD i []) - 1)=1000000000000+qu (rates.getD i []) - 1:=qi (by omega) (by omega)
    have hc2:=HE (p:=qu (rates.getD i [])) (c:=1000000000000) (by omega) (by omega)
    have w3:wI (Int.tdiv (1000000000000+qu (rates.getD i []) - 1) (qu (rates.getD i [])))=Int.tdiv (1000000000000+qu (rates.getD i []) - 1) (qu (rates.getD i [])):=qi (by omega) (by omega)
    rw [decide_eq_false c,decide_eq_true (show qu (rates.getD i [])≠0 by omega)]
    simp only [cond_true,cond_false,w1,w2,w3]
    rw [e16 (by omega)]
    cases (List.range (flows.getD i []).length).all fun t=>decide (1000000000000<=qo (pth flows i t) prices*qu (rates.getD i []))<;>rfl
  ·show jG (n+1) _ _ _ _ _=_
   rw [qa7];unfold GB ck;(repeat rewrite [obE]);rw [decide_eq_false (show ¬ (flows.length:Int) < (flows.length:Int) by omega)]
   rfl
 unfold v40 tv40 gq;(repeat rewrite [obE])
 rw [v20_eq h,h0]
 cases ja caps flows rates with
 | false=>rfl
 | true=>cases Ga flows rates prices<;>rfl
theorem v41_eq:v41 caps flows prices=some (qH caps prices):=by
 have hp:=h.few.hp
 have hpl:=h.pl
 have h0:j7 FU prices 0 0 caps flows=some (qH caps prices):=by
  refine qp (m:=prices.length) (by omega) (fun n j (s:Int)=>j7 n prices s j caps flows) (fun j=>qj j fun k=>prices.getD k 0*caps.getD k 0) (qH caps prices) (fun n k hk=>?_) fun n=>?_
  ·show j7 (n+1) _ _ _ _ _=j7 n _ _ _ _ _
   have hb:=JI h (j:=k+1) (by omega)
   have hb0:=JI h (j:=k) (by omega)
   have hs:qj (k+1) (fun k=>prices.getD k 0*caps.getD k 0)=qj k (fun k=>prices.getD k 0*caps.getD k 0)+prices.getD k 0*caps.getD k 0:=rfl
   have hm0:0<=prices.getD k 0*caps.getD k 0:=Int.mul_nonneg (h.price k).1 (h.cap k).1
   rw [qa8];unfold J5 ck;rw [decide_eq_true (show (k:Int) < (prices.length:Int) by omega),decide_eq_true (show (0:Int)<=(k:Int) by omega),decide_eq_true (show (k:Int) < (caps.length:Int) by omega),up1 (by omega)]
   simp only [cond_true,Int.toNat_natCast]
   rw [qi (x:=prices.getD k 0*caps.getD k 0) (by omega) (by omega),<- hs,qi (by omega) (by omega)]
  ·show j7 (n+1) _ _ _ _ _=_
   rw [qa8];unfold J5 ck;rw [decide_eq_false (show ¬ (prices.length:Int) < (prices.length:Int) by omega)]
   rfl
 unfold v41 tv41;(repeat rewrite [obE])
 rw [h0];rfl
end
theorem v38_eq {caps:List Int} {flows:Fl} {rates:List (List Int)} {prices:List Int} (hf:Few caps flows rates prices):v38 caps flows rates prices=some (gk caps flows rates prices):=by
 unfold v38 tv38 gk;(repeat rewrite [obE])
 rw [qgU hf,v19_eq hf,v30_eq hf]
 simp only [qh,qf,cond_true,qE]
 cases h1:qx caps flows with
 | false=>rfl
 | true=>
  cases h2:jb flows rates with
  | false=>rfl
  | true=>
   cases h3:qN caps prices with
   | false=>rfl
   | true=>
    have h:=ok_of hf h1 h2 h3
    have hc:=JI h (j:=prices.length) hf.hp
    have hfl:=hf.hf
    have hc':0<=qH caps prices/\qH caps prices<=20*(1000000000000*1000):=hc
    rw [v40_eq h,v41_eq h]
    simp only [qh,qf,cond_true,Bool.and_self]
    have w1:wI (1000000*(flows.length:Int))=1000000*(flows.length:Int):=qi (by omega) (by omega)
    have w2:wI (qH caps prices - 1000000*(flows.length:Int))=qH caps prices - 1000000*(flows.length:Int):=qi (by omega) (by omega)
    simp only [w1,w2]
    cases gq caps flows rates prices with
    | false=>rfl
    | true=>
     simp only [cond_true]
     generalize max 0 (qH caps prices - 1000000*(flows.length:Int))=g
     by_cases c:g<=1000000000000
     ·rw [decide_eq_true c,decide_eq_false (show ¬ g > 1000000000000 by omega)];rfl
     ·rw [decide_eq_false c,decide_eq_true (show g > 1000000000000 by omega)];rfl
def cq (a d:Int):Int:=Int.tdiv (a+d - 1) d
theorem qcv {a d z:Int} (ha:0<=a) (hd:1<=d):cq a d<=z↔a<=z*d:=by
 unfold cq
 rw [Int.tdiv_eq_ediv_of_nonneg (by omega)]
 constructor
 ·intro h
  have h1:(a+d - 1) / d < z+1:=by omega
  have h2:=(Int.ediv_lt_iff_lt_mul (show 0 < d by omega)).1 h1
  rw [Int.add_mul,Int.one_mul] at h2
  omega
 ·intro h
  have h2:(a+d - 1) / d < z+1:=(Int.ediv_lt_iff_lt_mul (show 0 < d by omega)).2 (by rw [Int.add_mul,Int.one_mul];omega)
  omega
theorem qdW {a b:Int} (h:∀ z,a<=z↔b<=z):a=b:=Int.le_antisymm ((h b).2 (Int.le_refl _)) ((h a).1 (Int.le_refl _))
theorem cq_two {x h:Int} (hx:1<=x) (hh:1<=h):cq (qt x*1024) (1024*h)=cq 1000000000000 (h*x):=by
 have hn:=(Gp hx).2.1
 have hhx:1<=h*x:=by have:=Int.mul_le_mul hh hx (by omega) (by omega);omega
 refine qdW fun z=>?_
 rw [qcv (by omega) (by omega),qcv (by omega) hhx]
 have e1:z*(1024*h)=1024*(z*h):=by rw [<- Int.mul_assoc,Int.mul_comm z 1024,Int.mul_assoc]
 have e2:z*(h*x)=z*h*x:=(Int.mul_assoc _ _ _).symm
 have e3:qt x<=z*h↔1000000000000<=z*h*x:=qcv (a:=1000000000000) (d:=x) (z:=z*h) (by omega) hx
 rw [e1,e2,<- e3]
 constructor<;>intro h<;>omega
def mxN (c:Nat->Int):Nat->Int
 | 0=>0
 | i+1=>max (mxN c i) (c i)
theorem mx_nm {x l h:Nat->Int} {m:Nat} (hx:∀ i,i < m->1<=x i) (hh:∀ i,i < m->1<=h i/\h i<=6) (hl:∀ i,i < m->l i=1024*h i):∀ j,j<=m->mxN (fun i=>cq 1000000000000 (h i*x i)) j=cq ((nmN x l j).1*1024) (nmN x l j).2
 | 0,_=>rfl
 | j+1,hj=>by
  have ih:=mx_nm hx hh hl j (by omega)
  have hb:=(qaI (x:=x) (l:=l) (m:=m) hx (fun i hi=>by have:=hl i hi;have:=hh i hi;omega) j (by omega))
  have hxj:=hx j (by omega)
  have hhj:=hh j (by omega)
  have hlj:=hl j (by omega)
  have hn:=(Gp hxj).2.1
  show max (mxN _ j) (cq 1000000000000 (h j*x j))=cq ((nmF (x j) (l j) (nmN x l j)).1*1024) (nmF (x j) (l j) (nmN x l j)).2
  rw [ih,<- cq_two hxj hhj.1]
  unfold nmF
  generalize nmN x l j=s at*
  have key:∀ {a b c d:Int},0<=a->1<=b->0<=c->1<=d->a*d<=c*b->cq (a*1024) b<=cq (c*1024) d:=by
   intro a b c d ha hb hc hd h
   rw [qcv (by omega) hb]
   have h1:=(qcv (a:=c*1024) (d:=d) (z:=cq (c*1024) d) (by omega) hd).1 (Int.le_refl _)
   generalize cq (c*1024) d=z at*
   have h2:c*1024*b<=z*d*b:=Int.mul_le_mul_of_nonneg_right h1 (by omega)
   have h3:a*d*1024<=c*b*1024:=Int.mul_le_mul_of_nonneg_right h (by omega)
   have e1:c*1024*b=c*b*1024:=by rw [Int.mul_assoc,Int.mul_comm 1024,<- Int.mul_assoc]
   have e2:z*d*b=z*b*d:=by rw [Int.mul_assoc,Int.mul_comm d,<- Int.mul_assoc]
   have e3:a*d*1024=a*1024*d:=by rw [Int.mul_assoc,Int.mul_comm d,<- Int.mul_assoc]
   exact Int.le_of_mul_le_mul_right (a:=d) (by omega) (by omega)
  by_cases c:s.1*l j < qt (x j)*s.2
  ·rw [qd c]
   have:=key hb.1.1 hb.2.1.1 (show 0<=qt (x j) by omega) (show 1<=1024*h j by omega) (by rw [<- hlj];omega)
   simp only
   rw [hlj]
   omega
  ·rw [qg c]
   have:=key (show 0<=qt (x j) by omega) (show 1<=1024*h j by omega) hb.1.1 hb.2.1.1 (by rw [<- hlj];omega)
   omega
section
variable {caps : List Int} {flows : Fl} (hn : Nw caps flows) (hfit : Fit caps flows)
include hn hfit
theorem now_sum {i:Nat} (hi:i < flows.length) {b:Nat} (hb:b < (flows.getD i []).length) (hc:(chS caps flows (w0L caps.length) i).1=(b:Int)) (k:Nat) :
  (qj (flows.getD i []).length fun t=>pk (pth flows i t) (rt (qe caps flows (w0L caps.length)) i t) k)=pk (pth flows i b) (qQ caps flows (w0L caps.length) i b) k:=by
 obtain ⟨b',hb',_,hc',_,_,_,h0⟩:=g8 hn (gw _) hfit hi
 have e:b'=b:=by omega
 subst e
 rw [gy hb fun t ht hne=>?_]
 ·rw [show rt (qe caps flows (w0L caps.length)) i b'=qQ caps flows (w0L caps.length) i b' from qF _ hi hb]
 ·rw [show rt (qe caps flows (w0L caps.length)) i t=qQ caps flows (w0L caps.length) i t from qF _ hi ht,h0 t hne]
  rcases gC hn hi ht k with e | ⟨e,_⟩<;>rw [e]
theorem l18_16 {i b:Nat} (hi:i < flows.length) (hb:b < (flows.getD i []).length) {r:Int} (hr:r=1000000000 / ((pth flows i b).length:Int)) (f:Nat->Int) (hf:∀ k,0<=f k/\f k<=100000000000000) :
  qP FU (i:Int) (pth flows i b) 0 caps flows 0 (tab caps.length f) [] []=some (tab caps.length fun k=>f k+pk (pth flows i b) r k):=by
 have hl:=hn.hop i b hi hb
 have hr1:0<=r/\r<=1000000000:=by
  rw [hr]
  exact ⟨Int.ediv_nonneg (by omega) (by omega),Int.ediv_le_self _ (by omega)⟩
 have hrd:Int.tdiv 1000000000 ((pth flows i b).length:Int)=r:=by rw [hr];exact Int.tdiv_eq_ediv_of_nonneg (by omega)
 have:=qp (m:=(pth flows i b).length) (by omega) (fun n j (s:List Int)=>qP n (i:Int) (pth flows i b) j caps flows 0 s [] [])
  (fun j=>tab caps.length fun k=>f k+qj j fun t'=>cond ((pth flows i b).getD t' 0==(k:Int)) r 0) (tab caps.length fun k=>f k+pk (pth flows i b) r k) (fun n j hj=>?_) fun n=>?_
 ·simp only [qj,Int.add_zero] at this
  exact this
 ·show qP (n+1) _ _ _ _ _ _ _ _ _=qP n _ _ _ _ _ _ _ _ _
  have hk:=hn.link i b j hi hb hj
  obtain ⟨p,hp⟩:∃ p:Nat,(pth flows i b).getD j 0=(p:Int):=⟨Int.toNat ((pth flows i b).getD j 0),by omega⟩
  have hpc:p < caps.length:=by omega
  rw [DX];unfold G5 ck;rw [qd (show (j:Int) < ((pth flows i b).length:Int) by omega),qd (show (0:Int)<=(j:Int) by omega),up1 (by omega)]
  simp only [Int.toNat_natCast,hp,qq,hrd]
  rw [qd (show (0:Int)<=(p:Int) by omega),qd (show (p:Int) < (caps.length:Int) by omega),qd hpc,qd (show ((pth flows i b).length:Int)≠0 by omega),qr _ hpc,qV,qi (x:=r) (by omega) (by omega)]
  congr 1
  apply ql
  intro k hkc
  have hbd:=qA (n:=j) (m:=6) (f:=fun t'=>cond ((pth flows i b).getD t' 0==(p:Int)) r 0) (c:=1000000000) (by omega) (fun t' _=>by
   cases ((pth flows i b).getD t' 0==(p:Int)) with
   | true=>exact hr1
   | false=>exact ⟨Int.le_refl _,by show (0:Int)<=_;omega⟩) (by omega)
  have hfp:=hf p
  rw [qc7,hp]
  by_cases hkp:k=p
  ·subst hkp
   rw [if_pos rfl,qi (by omega) (by omega),beq_self_eq_true,cond_true]
   omega
  ·rw [if_neg hkp,show ((p:Int)==(k:Int))=false from beq_false_of_ne (by omega),cond_false,Int.add_zero]
 ·show qP (n+1) _ _ _ _ _ _ _ _ _=_
  rw [DX];unfold G5 ck;rw [qg (show ¬ ((pth flows i b).length:Int) < ((pth flows i b).length:Int) by omega)]
  rfl
theorem l18_0:jP FU 0 caps flows 0 (List.replicate caps.length 0) [] []=some (ldL caps flows (qe caps flows (w0L caps.length))):=by
 have hfl:=hn.f1
 have hnow:=g9 hn (gw caps.length) hfit
 have e1:List.replicate caps.length (0:Int)=Ld caps flows (qe caps flows (w0L caps.length)) 0 0:=qG _
 have e3:Ld caps flows (qe caps flows (w0L caps.length)) flows.length 0=ldL caps flows (qe caps flows (w0L caps.length)):=ql fun k _=>Int.add_zero _
 rw [e1,<- e3]
 refine qp (m:=flows.length) (by omega) (fun n j (s:List Int)=>jP n j caps flows 0 s [] []) (fun j=>Ld caps flows (qe caps flows (w0L caps.length)) j 0) _ (fun n i hi=>?_) fun n=>?_
 ·show jP (n+1) _ _ _ _ _ _ _=jP n _ _ _ _ _ _ _
  obtain ⟨b,h,hb,_,hc,hh,hh2,_,he,hv⟩:=gN hn hfit hi
  have e35:v35 caps flows (i:Int)=some (b:Int):=by rw [qeu hn hi,hc]
  have e16:=l18_16 hn hfit hi hb (r:=qQ caps flows (w0L caps.length) i b) (by rw [he,hh]) (fun k=>(qj i fun q=>qj (flows.getD q []).length fun t=>pk (pth flows q t) (rt (qe caps flows (w0L caps.length)) q t) k)+0) (fun k=>by
   have:=qez hn (by omega) hnow (Nat.le_of_lt hi) k
   omega)
  have e2:(tab caps.length fun k=>(qj i fun q=>qj (flows.getD q []).length fun t=>pk (pth flows q t) (rt (qe caps flows (w0L caps.length)) q t) k)+0+pk (pth flows i b) (qQ caps flows (w0L caps.length) i b) k)=Ld caps flows (qe caps flows (w0L caps.length)) (i+1) 0:=ql fun k hk=>by
   simp only [qj]
   rw [now_sum hn hfit hi hb hc];omega
  rw [qaO];unfold JQ ck;(repeat rewrite [obE]);rw [qd (show (i:Int) < (flows.length:Int) by omega),qd (show (0:Int)<=(i:Int) by omega),up1 (by omega)]
  simp only [e35,Int.toNat_natCast,qh,qf,cond_true]
  rw [qd (show (0:Int)<=(b:Int) by omega),qd (show (b:Int) < ((flows.getD i []).length:Int) by omega),show Ld caps flows (qe caps flows (w0L caps.length)) i 0=tab caps.length _ from rfl]
  have e16':qP FU (i:Int) ((flows.getD i []).getD b []) 0 caps flows 0 (tab caps.length fun k=>(qj i fun q=>qj (flows.getD q []).length fun t=>pk (pth flows q t) (rt (qe caps flows (w0L caps.length)) q t) k)+qj 0 fun t=>pk (pth flows i t) (rt (qe caps flows (w0L caps.length)) i t) k) [] []=some (Ld caps flows (qe caps flows (w0L caps.length)) (i+1) 0):=by
   rw [<- e2];exact e16
  rw [e16']
  rfl
 ·show jP (n+1) _ _ _ _ _ _ _=_
  rw [qaO];unfold JQ ck;(repeat rewrite [obE]);rw [qg (show ¬ (flows.length:Int) < (flows.length:Int) by omega)]
theorem l18_32 {ld:List Int} (hl:ld.length=caps.length) (hb:∀ k,0<=ld.getD k 0/\ld.getD k 0<=3000000000000000):ji FU (-1) 0 caps flows 0 ld [] []=some (tgN caps ld caps.length):=by
 have hc:=hn.c1
 refine qp (m:=caps.length) (by omega) (fun n j (s:Int)=>ji n s j caps flows 0 ld [] []) (tgN caps ld) (tgN caps ld caps.length) (fun n k hk=>?_) fun n=>?_
 ·show ji (n+1) _ _ _ _ _ _ _ _=ji n (tgF caps ld k (tgN caps ld k)) _ _ _ _ _ _ _
  have hs:=KT caps ld k
  rw [DY];unfold G6 ck;rw [qd (show (k:Int) < (ld.length:Int) by omega),qd (show (0:Int)<=(k:Int) by omega),up1 (by omega)]
  simp only [Int.toNat_natCast]
  rw [qd (show k < ld.length by omega)]
  unfold tgF
  by_cases c:ld.getD k 0 > 0
  ·rw [qd c,qd c]
   rcases hs with ⟨h1,_⟩ | ⟨b,h1,h2,_,_⟩
   ·rw [h1,qd (show (-1:Int) < 0 by omega),qd (show (-1:Int) < 0 by omega)]
   ·have hb1:=hb k
    have hb2:=hb b
    have hc1:=hn.cap k
    have hc2:=hn.cap b
    have p1:=Int.mul_le_mul hc1.2 hb2.2 hb2.1 (by omega)
    have p2:=Int.mul_le_mul hc2.2 hb1.2 hb1.1 (by omega)
    have p3:=Int.mul_nonneg hc1.1 hb2.1
    have p4:=Int.mul_nonneg hc2.1 hb1.1
    rw [h2,qg (show ¬ (b:Int) < 0 by omega),qg (show ¬ (b:Int) < 0 by omega),qd (show (k:Int) < (caps.length:Int) by omega),qd (show (0:Int)<=(b:Int) by omega),qd (show (b:Int) < (ld.length:Int) by omega),Int.toNat_natCast,qd (show b < ld.length by omega),qd (show (b:Int) < (caps.length:Int) by omega)]
    have w1:wI (caps.getD k 0*ld.getD b 0)=caps.getD k 0*ld.getD b 0:=qi (by omega) (by omega)
    have w2:wI (caps.getD b 0*ld.getD k 0)=caps.getD b 0*ld.getD k 0:=qi (by omega) (by omega)
    simp only [w1,w2]
    cases decide (caps.getD k 0*ld.getD b 0 < caps.getD b 0*ld.getD k 0)<;>rfl
  ·rw [qg c,qg c]
 ·show ji (n+1) _ _ _ _ _ _ _ _=_
  rw [DY];unfold G6 ck;rw [qg (show ¬ (caps.length:Int) < (ld.length:Int) by omega)]
def KL (caps:List Int) (flows:Fl) (i:Nat):Int:=qs caps flows (w0L caps.length) i / 1024
def clA (caps:List Int) (flows:Fl) (i:Nat):Int:=cq 1000000000000 (KL caps flows i*qn caps flows (qe caps flows (w0L caps.length)) i)
theorem l18_48:jj FU (tgS caps flows (qe caps flows (w0L caps.length)):Int) 0 0 caps flows 0 0 (ldL caps flows (qe caps flows (w0L caps.length))) [] [] [] []=some (mxN (clA caps flows) flows.length,scR caps flows (qe caps flows (w0L caps.length))):=by
 have hfl:=hn.f1
 have hnow:=g9 hn (gw caps.length) hfit
 have hnz:=G1 hn (gw caps.length) hfit
 have ht:=Gd hn hnow hnz
 have hg:=gx hn hnow hnz
 refine qp (m:=flows.length) (by omega) (fun n j (s:Int×List (List Int))=>jj n (tgS caps flows (qe caps flows (w0L caps.length)):Int) s.1 j caps flows 0 0 (ldL caps flows (qe caps flows (w0L caps.length))) [] [] s.2 [])
  (fun j=>(mxN (clA caps flows) j,(List.range j).map fun i=>tab (flows.getD i []).length (scS caps flows (qe caps flows (w0L caps.length)) i))) _ (fun n i hi=>?_) fun n=>?_
 ·show jj (n+1) _ _ _ _ _ _ _ _ _ _ _ _=jj n _ _ _ _ _ _ _ _ _ _ _ _
  obtain ⟨b,h,hb,_,hc,hh,hh2,hl,he,hv⟩:=gN hn hfit hi
  have h4:=hn.sub i hi
  have e35:v35 caps flows (i:Int)=some (b:Int):=by rw [qeu hn hi,hc]
  have hlen:((flows.getD i []).getD b []).length=(pth flows i b).length:=rfl
  have hld:(ldL caps flows (qe caps flows (w0L caps.length))).length=caps.length:=qq _ _
  have hlg:(ldL caps flows (qe caps flows (w0L caps.length))).getD (tgS caps flows (qe caps flows (w0L caps.length))) 0=qm flows (qe caps flows (w0L caps.length)) (tgS caps flows (qe caps flows (w0L caps.length))):=qr _ ht.2.1
  have hct:=hn.cap (tgS caps flows (qe caps flows (w0L caps.length)))
  obtain ⟨b',_,_,hc',_,_,_,h0⟩:=g8 hn (gw _) hfit hi
  have hbb:b'=b:=by omega
  subst hbb
  have hnb:rt (qe caps flows (w0L caps.length)) i b'=qQ caps flows (w0L caps.length) i b':=qF _ hi hb
  have htot:qn caps flows (qe caps flows (w0L caps.length)) i=scS caps flows (qe caps flows (w0L caps.length)) i b':=by
   unfold qn qu scR
   rw [HH _ hi,qq,gy hb fun t ht' hne=>?_,qr _ hb]
   rw [qr _ ht']
   unfold scS
   rw [show rt (qe caps flows (w0L caps.length)) i t=qQ caps flows (w0L caps.length) i t from qF _ hi ht',h0 t hne,Int.zero_mul,Int.zero_ediv]
  have hx:=Kg hn hfit hi
  have hsb:=qcD hn hnow hnz hi hb
  have p1:=Int.mul_le_mul hv.2 hct.2 hct.1 (by omega)
  have p2:=Int.mul_nonneg (show 0<=1000000000 / h by omega) hct.1
  have hval:Int.tdiv (1000000000 / h*caps.getD (tgS caps flows (qe caps flows (w0L caps.length))) 0*1000000) (qm flows (qe caps flows (w0L caps.length)) (tgS caps flows (qe caps flows (w0L caps.length))))=scS caps flows (qe caps flows (w0L caps.length)) i b':=by
   rw [Int.tdiv_eq_ediv_of_nonneg (by omega)]
   unfold scS
   rw [hnb,he,Int.mul_assoc,Int.mul_comm (caps.getD _ 0) 1000000]
  have hset:(List.replicate (flows.getD i []).length (0:Int)).set b' (scS caps flows (qe caps flows (w0L caps.length)) i b')=tab (flows.getD i []).length (scS caps flows (qe caps flows (w0L caps.length)) i):=by
   rw [qG,qV]
   refine ql fun t ht'=>?_
   by_cases c:t=b'
   ·rw [if_pos c,c]
   ·rw [if_neg c]
    unfold scS
    rw [show rt (qe caps flows (w0L caps.length)) i t=qQ caps flows (w0L caps.length) i t from qF _ hi ht',h0 t c,Int.zero_mul,Int.zero_ediv]
  have hq:Int.tdiv 1000000000 (((flows.getD i []).getD b' []).length:Int)=1000000000 / h:=by
   rw [hlen,<- hh];exact Int.tdiv_eq_ediv_of_nonneg (by omega)
  have hhop:KL caps flows i=h:=by unfold KL;rw [hl];omega
  have e204:gm (tgS caps flows (qe caps flows (w0L caps.length)):Int) (mxN (clA caps flows) i) (i:Int) (tab (flows.getD i []).length (scS caps flows (qe caps flows (w0L caps.length)) i)) (b':Int) (((flows.getD i []).getD b' []).length:Int) caps flows 0 0 (ldL caps flows (qe caps flows (w0L caps.length))) [] [] ((List.range i).map fun i=>tab (flows.getD i []).length (scS caps flows (qe caps flows (w0L caps.length)) i)) []=
    some (mxN (clA caps flows) (i+1),(List.range (i+1)).map fun i=>tab (flows.getD i []).length (scS caps flows (qe caps flows (w0L caps.length)) i)):=by
   have hx2:scS caps flows (qe caps flows (w0L caps.length)) i b'=qn caps flows (qe caps flows (w0L caps.length)) i:=htot.symm
   have hlen':(((flows.getD i []).getD b' []).length:Int)=h:=by rw [hlen,<- hh]
   have htg:(tab (flows.getD i []).length (scS caps flows (qe caps flows (w0L caps.length)) i)).getD b' 0=qn caps flows (qe caps flows (w0L caps.length)) i:=(qr _ hb).trans hx2
   have m1:=Int.mul_le_mul hh2.2 (show qn caps flows (qe caps flows (w0L caps.length)) i<=1000000000 by omega) (by omega) (by omega)
   have m2:=Int.mul_le_mul hh2.1 (show 20833<=qn caps flows (qe caps flows (w0L caps.length)) i from hx) (by omega) (by omega)
   have w1:wI (h*qn caps flows (qe caps flows (w0L caps.length)) i)=h*qn caps flows (qe caps flows (w0L caps.length)) i:=qi (by omega) (by omega)
   have hcl:Int.tdiv (1000000000000+h*qn caps flows (qe caps flows (w0L caps.length)) i - 1) (h*qn caps flows (qe caps flows (w0L caps.length)) i)=clA caps flows i:=by unfold clA cq;rw [hhop]
   have hcb:=HE (p:=h*qn caps flows (qe caps flows (w0L caps.length)) i) (c:=1000000000000) (by omega) (by omega)
   have w2:wI (1000000000000+h*qn caps flows (qe caps flows (w0L caps.length)) i)=1000000000000+h*qn caps flows (qe caps flows (w0L caps.length)) i:=qi (by omega) (by omega)
   have w3:wI (1000000000000+h*qn caps flows (qe caps flows (w0L caps.length)) i - 1)=1000000000000+h*qn caps flows (qe caps flows (w0L caps.length)) i - 1:=qi (by omega) (by omega)
   have w4:wI (clA caps flows i)=clA caps flows i:=qi (by rw [<- hcl];omega) (by rw [<- hcl];omega)
   unfold gm KQ ck
   simp only [List.length_map,List.length_range,List.length_cons,List.length_nil,qq,Int.toNat_natCast,htg,hlen',w1,w2,w3,hcl,w4]
   rw [qd (show i+(0+1)<=2147483648 by omega),qd (show (0:Int)<=(b':Int) by omega),qd (show (b':Int) < ((flows.getD i []).length:Int) by omega),qd (show h*qn caps flows (qe caps flows (w0L caps.length)) i≠0 by omega),List.range_succ,List.map_append]
   rfl
  rw [DZ];unfold G7 ck;(repeat rewrite [obE]);rw [qd (show (i:Int) < (flows.length:Int) by omega),qd (show (0:Int)<=(i:Int) by omega),up1 (by omega)]
  simp only [e35,Int.toNat_natCast,qh,qf,cond_true,List.length_replicate,hq,hld,hlg]
  rw [qd (Int.le_refl _),qd (show ((flows.getD i []).length:Int)<=((2147483648:Nat):Int) by omega),qd (show (0:Int)<=(b':Int) by omega),qd (show (b':Int) < ((flows.getD i []).length:Int) by omega),qd (show (((flows.getD i []).getD b' []).length:Int)≠0 by rw [hlen];omega),qd (show (0:Int)<=(tgS caps flows (qe caps flows (w0L caps.length)):Int) by omega),qd (show (tgS caps flows (qe caps flows (w0L caps.length)):Int) < (caps.length:Int) by omega),qd (show (tgS caps flows (qe caps flows (w0L caps.length)):Int) < (caps.length:Int) by omega),qd ht.2.1,qd (show qm flows (qe caps flows (w0L caps.length)) (tgS caps flows (qe caps flows (w0L caps.length)))≠0 by omega),qd (show (b':Int) < ((flows.getD i []).length:Int) by omega),qd hb]
  rw [qi (x:=1000000000 / h) (by omega) (by omega),qi (x:=1000000000 / h*caps.getD (tgS caps flows (qe caps flows (w0L caps.length))) 0) (by omega) (by omega),qi (x:=1000000000 / h*caps.getD (tgS caps flows (qe caps flows (w0L caps.length))) 0*1000000) (by omega) (by omega),hval,qi (x:=scS caps flows (qe caps flows (w0L caps.length)) i b') (by omega) (by omega),hset,e204]
  rfl
 ·show jj (n+1) _ _ _ _ _ _ _ _ _ _ _ _=_
  rw [DZ];unfold G7 ck;(repeat rewrite [obE]);rw [qg (show ¬ (flows.length:Int) < (flows.length:Int) by omega)]
  rfl
end
theorem qcC (f:Nat->Bool) (j:Nat):(List.range (j+1)).any f=((List.range j).any f||f j):=by rw [List.range_succ,List.any_append];simp
def onF (flows:Fl) (k:Int) (i:Nat):Bool:=(List.range (flows.getD i []).length).any fun t=>((flows.getD i []).getD t []).any (·==k)
def onN (flows:Fl) (k:Int):Bool:=(List.range flows.length).any (onF flows k)
section
variable {caps : List Int} {flows : Fl} (hn : Nw caps flows)
include hn
theorem one_ld {i t j:Nat} (hi:i < flows.length) (ht:t < (flows.getD i []).length) (hj:j < (pth flows i t).length):qm flows (qz flows) ((pth flows i t).getD j 0).toNat > 0:=by
 have hg2:∀ i' t',i' < flows.length->t' < (flows.getD i' []).length->0<=pk (pth flows i' t') (rt (qz flows) i' t') ((pth flows i t).getD j 0).toNat:=fun i' t' hi' ht'=>by
  have e:rt (qz flows) i' t'=1:=qF _ hi' ht'
  rw [e]
  rcases gC hn hi' ht' ((pth flows i t).getD j 0).toNat with h | ⟨h,_⟩<;>rw [h]<;>omega
 have h1:=jN (flows.getD i []).length (f:=fun t'=>pk (pth flows i t') (rt (qz flows) i t') ((pth flows i t).getD j 0).toNat) ht (fun t' ht'=>hg2 i t' hi ht')
 have h2:=jN flows.length (f:=fun i'=>qj (flows.getD i' []).length fun t'=>pk (pth flows i' t') (rt (qz flows) i' t') ((pth flows i t).getD j 0).toNat) hi (fun i' hi'=>jz fun t' ht'=>hg2 i' t' hi' ht')
 have e:rt (qz flows) i t=1:=qF _ hi ht
 simp only [qcB hn hi ht hj,e] at h1
 exact Int.lt_of_lt_of_le (show (0:Int) < 1 by omega) (Int.le_trans h1 h2)
theorem one_on (k:Nat):decide (qm flows (qz flows) k > 0)=onN flows (k:Int):=by
 rw [Bool.eq_iff_iff,decide_eq_true_iff]
 constructor
 ·intro h
  obtain ⟨i,hi,h1⟩:=KO h
  obtain ⟨t,ht,h2⟩:=KO h1
  rcases gC hn hi ht k with h3 | ⟨h3,j,hj,hk⟩
  ·rw [h3] at h2;omega
  ·exact List.any_eq_true.2 ⟨i,List.mem_range.2 hi,List.any_eq_true.2 ⟨t,List.mem_range.2 ht,List.any_eq_true.2 ⟨_,qU hj 0,by rw [hk];exact beq_self_eq_true _⟩⟩⟩
 ·intro h
  obtain ⟨i,hi,h1⟩:=List.any_eq_true.1 h
  obtain ⟨t,ht,h2⟩:=List.any_eq_true.1 h1
  rw [<- Kf _ (0:Int) fun x=>x==(k:Int)] at h2
  obtain ⟨j,hj,h3⟩:=List.any_eq_true.1 h2
  have e:((flows.getD i []).getD t []).getD j 0=(k:Int):=by simpa using h3
  have:=one_ld hn (List.mem_range.1 hi) (List.mem_range.1 ht) (j:=j) (List.mem_range.1 hj)
  rwa [show (pth flows i t).getD j 0=(k:Int) from e,Int.toNat_natCast] at this
theorem l18_96 {i:Nat} (hi:i < flows.length) (price p:Int) (k:Nat) (rates:List (List Int)) (prices:List Int) :
  jl FU price (k:Int) p (i:Int) 0 caps flows 0 0 [] [] rates prices=some (cond (onF flows (k:Int) i) price p):=by
 have h4:=hn.sub i hi
 refine qp (m:=(flows.getD i []).length) (by omega) (fun n j (s:Int)=>jl n price (k:Int) s (i:Int) j caps flows 0 0 [] [] rates prices) (fun j=>cond ((List.range j).any fun t=>((flows.getD i []).getD t []).any (·==(k:Int))) price p) _ (fun n t ht=>?_) fun n=>?_
 ·show jl (n+1) _ _ _ _ _ _ _ _ _ _ _ _ _=jl n _ _ (cond ((List.range (t+1)).any fun t=>((flows.getD i []).getD t []).any (·==(k:Int))) price p) _ _ _ _ _ _ _ _ _ _
  have hp:=hn.hop i t hi ht
  have e37:=qgY ((flows.getD i []).getD t []) (show (pth flows i t).length<=20 by omega) (k:Int)
  rw [D2];unfold G9 ck;(repeat rewrite [obE]);rw [qd (show (0:Int)<=(i:Int) by omega),qd (show (i:Int) < (flows.length:Int) by omega)]
  simp only [Int.toNat_natCast]
  rw [qd (show (t:Int) < ((flows.getD i []).length:Int) by omega),qd (show (0:Int)<=(t:Int) by omega),e37,up1 (by omega),qcC]
  simp only [qh,qf,cond_true]
  cases ((flows.getD i []).getD t []).any (·==(k:Int)) with
  | true=>rw [Bool.or_true];rfl
  | false=>rw [Bool.or_false];rfl
 ·show jl (n+1) _ _ _ _ _ _ _ _ _ _ _ _ _=_
  rw [D2];unfold G9 ck;(repeat rewrite [obE]);rw [qd (show (0:Int)<=(i:Int) by omega),qd (show (i:Int) < (flows.length:Int) by omega)]
  simp only [Int.toNat_natCast]
  rw [qg (show ¬ ((flows.getD i []).length:Int) < ((flows.getD i []).length:Int) by omega)]
  rfl
theorem l18_80 (price:Int) (k:Nat) (rates:List (List Int)) (prices:List Int):qX FU price (k:Int) 0 0 caps flows 0 0 [] [] rates prices=some (cond (onN flows (k:Int)) price 0):=by
 have hf:=hn.f1
 refine qp (m:=flows.length) (by omega) (fun n j (s:Int)=>qX n price (k:Int) s j caps flows 0 0 [] [] rates prices) (fun j=>cond ((List.range j).any (onF flows (k:Int))) price 0) _ (fun n i hi=>?_) fun n=>?_
 ·show qX (n+1) _ _ _ _ _ _ _ _ _ _ _ _=qX n _ _ (cond ((List.range (i+1)).any (onF flows (k:Int))) price 0) _ _ _ _ _ _ _ _ _
  rw [D1];unfold gQ;(repeat rewrite [obE]);rw [qd (show (i:Int) < (flows.length:Int) by omega),l18_96 hn hi,up1 (by omega),qcC]
  simp only [qh,qf,cond_true]
  cases onF flows (k:Int) i with
  | true=>rw [Bool.or_true];rfl
  | false=>rw [Bool.or_false];rfl
 ·show qX (n+1) _ _ _ _ _ _ _ _ _ _ _ _=_
  rw [D1];unfold gQ;(repeat rewrite [obE]);rw [qg (show ¬ (flows.length:Int) < (flows.length:Int) by omega)]
  rfl
theorem l18_64 (price:Int) (rates:List (List Int)):jk FU price 0 caps flows 0 0 [] [] rates []=some (tab caps.length fun k=>cond (caps.getD k 0==0) 1000000000000 (cond (onN flows (k:Int)) price 0)):=by
 have hc:=hn.c1
 refine qp (m:=caps.length) (by omega) (fun n j (s:List Int)=>jk n price j caps flows 0 0 [] [] rates s) (fun j=>tab j fun k=>cond (caps.getD k 0==0) 1000000000000 (cond (onN flows (k:Int)) price 0)) _ (fun n k hk=>?_) fun n=>?_
 ·show jk (n+1) _ _ _ _ _ _ _ _ _ _=jk n _ _ _ _ _ _ _ _ _ _
  have ht:(tab (k+1) fun k=>cond (caps.getD k 0==0) 1000000000000 (cond (onN flows (k:Int)) price 0))=(tab k fun k=>cond (caps.getD k 0==0) 1000000000000 (cond (onN flows (k:Int)) price 0))++[cond (caps.getD k 0==0) 1000000000000 (cond (onN flows (k:Int)) price 0)]:=by
   unfold tab;rw [List.range_succ,List.map_append];rfl
  rw [D0];unfold G8;(repeat rewrite [obE]);rw [qd (show (k:Int) < (caps.length:Int) by omega),l18_80 hn,up1 (by omega),ht]
  simp only [qh,qf,cond_true,Int.toNat_natCast,qq,List.length_cons,List.length_nil]
  rw [qd (show (0:Int)<=(k:Int) by omega),qd (show k+(0+1)<=2147483648 by omega),qd (show k+(0+1)<=2147483648 by omega)]
  cases caps.getD k 0==0<;>rfl
 ·show jk (n+1) _ _ _ _ _ _ _ _ _ _=_
  rw [D0];unfold G8;(repeat rewrite [obE]);rw [qg (show ¬ (caps.length:Int) < (caps.length:Int) by omega)]
variable (hfit : Fit caps flows)
include hfit
theorem qgT:v18 caps flows=some ((qL caps flows).1,(qL caps flows).2.1,(qL caps flows).2.2.1):=by
 have hc:=hn.c1
 have hw:=gw caps.length
 have hnow:=g9 hn hw hfit
 have hnz:=G1 hn hw hfit
 have hfull:=Jp hn hfit
 have ht:=Gd hn hnow hnz
 have hg:=gx hn hnow hnz
 have hld:(ldL caps flows (qe caps flows (w0L caps.length))).length=caps.length:=qq _ _
 have hlb:∀ k,0<=(ldL caps flows (qe caps flows (w0L caps.length))).getD k 0/\(ldL caps flows (qe caps flows (w0L caps.length))).getD k 0<=3000000000000000:=fun k=>by
  by_cases hk:k < caps.length
  ·rw [show (ldL caps flows (qe caps flows (w0L caps.length))).getD k 0=qm flows (qe caps flows (w0L caps.length)) k from qr _ hk]
   have:=qcy hn (by omega) hnow k
   omega
  ·rw [out1 (by omega)];omega
 have e32:=l18_32 hn hfit hld hlb
 rw [ht.1] at e32
 have e48:=l18_48 hn hfit
 have hx:∀ i,i < flows.length->1<=qn caps flows (qe caps flows (w0L caps.length)) i:=fun i hi=>by have:=Kg hn hfit hi;omega
 have hh:∀ i,i < flows.length->(1<=KL caps flows i/\KL caps flows i<=6)/\qs caps flows (w0L caps.length) i=1024*KL caps flows i:=fun i hi=>by
  obtain ⟨b,h,_,_,_,_,hh2,hl,_⟩:=gN hn hfit hi
  have:KL caps flows i=h:=by unfold KL;rw [hl];omega
  rw [this]
  exact ⟨hh2,hl⟩
 have hmx:=mx_nm (x:=qn caps flows (qe caps flows (w0L caps.length))) (l:=qs caps flows (w0L caps.length)) (h:=KL caps flows) (m:=flows.length) hx (fun i hi=>(hh i hi).1) (fun i hi=>(hh i hi).2) flows.length (Nat.le_refl _)
 have hpr:(tab caps.length fun k=>cond (caps.getD k 0==0) 1000000000000 (cond (onN flows (k:Int)) (mxN (clA caps flows) flows.length) 0))=prL caps flows (w0L caps.length) (nmS caps flows (qe caps flows (w0L caps.length)) (w0L caps.length)):=by
  refine ql fun k hk=>?_
  unfold prS
  rw [one_on hn,show (w0L caps.length).getD k 0=1024 from qr _ hk]
  have:mxN (clA caps flows) flows.length=Int.tdiv ((nmS caps flows (qe caps flows (w0L caps.length)) (w0L caps.length)).1*1024+(nmS caps flows (qe caps flows (w0L caps.length)) (w0L caps.length)).2 - 1) (nmS caps flows (qe caps flows (w0L caps.length)) (w0L caps.length)).2:=hmx
  rw [this]
 have e64:=l18_64 hn (mxN (clA caps flows) flows.length) (scR caps flows (qe caps flows (w0L caps.length)))
 rw [hpr] at e64
 have hfew:Few caps flows (scR caps flows (qe caps flows (w0L caps.length))) (prL caps flows (w0L caps.length) (nmS caps flows (qe caps flows (w0L caps.length)) (w0L caps.length))):=qcw hn hg.rl hg.rli (by unfold prL;rw [qq];omega)
 have hcert:qL caps flows=(scR caps flows (qe caps flows (w0L caps.length)),prL caps flows (w0L caps.length) (nmS caps flows (qe caps flows (w0L caps.length)) (w0L caps.length)),(gk caps flows (scR caps flows (qe caps flows (w0L caps.length))) (prL caps flows (w0L caps.length) (nmS caps flows (qe caps flows (w0L caps.length)) (w0L caps.length)))).1,(gk caps flows (scR caps flows (qe caps flows (w0L caps.length))) (prL caps flows (w0L caps.length) (nmS caps flows (qe caps flows (w0L caps.length)) (w0L caps.length)))).2==0):=by
  unfold qL qw
  rw [hfull];rfl
 unfold v18 tv18;(repeat rewrite [obE])
 rw [Int.toNat_natCast,l18_0 hn hfit,qd (Int.le_refl _),qd (show (caps.length:Int)<=((2147483648:Nat):Int) by omega)]
 simp only [qh,qf,cond_true]
 rw [e32]
 simp only [qh,qf,cond_true]
 rw [e48]
 simp only [qh,qf,cond_true]
 rw [e64]
 simp only [qh,qf,cond_true]
 rw [v38_eq hfew,hcert]
 rfl
end
def refS (caps:List Int) (flows:Fl) (r:Int):List (List Int)×List Int×Int×Int:=
 cond (qx caps flows&&decide (0<=r/\r<=1000)) (cond (gH caps flows) ((qL caps flows).1,(qL caps flows).2.1,(qL caps flows).2.2.1,0) ([],[],0,4)) ([],[],0,1)
theorem v15_eq {caps:List Int} {flows:Fl} {rates:List (List Int)} {prices:List Int} (hf:Few caps flows rates prices) (r:Int):v15 caps flows r=some (refS caps flows r):=by
 unfold v15 tv15 refS;(repeat rewrite [obE])
 rw [qgU hf]
 simp only [qh,qf,cond_true,qE]
 cases hv:qx caps flows with
 | false=>rfl
 | true=>
 rw [cond_true,Bool.true_and]
 by_cases c1:r < 0
 ·rw [qd c1,decide_eq_false (show ¬ (0<=r/\r<=1000) by omega)];rfl
 rw [qg c1]
 by_cases c2:r > 1000
 ·rw [qd c2,decide_eq_false (show ¬ (0<=r/\r<=1000) by omega)];rfl
 rw [qg c2,decide_eq_true (show 0<=r/\r<=1000 by omega),cond_true]
 have hn:=KM hv
 have hfl:=hn.f1
 have e0:jd FU 0 caps flows 0 [] []=some (cond (gH caps flows) (.inr ()) (.inl (4,0))):=by
  refine qds (m:=flows.length) (by omega) (fun n i=>jd n i caps flows 0 [] []) ((4,0):Int×Int) (fun i=>decide ((chS caps flows (w0L caps.length) i).1 < 0)) (fun n i hi=>?_) fun n=>?_
  ·show jd (n+1) _ _ _ _ _ _=_
   rw [qaN];unfold Gr;(repeat rewrite [obE]);rw [qd (show (i:Int) < (flows.length:Int) by omega),qeu hn hi,up1 (by omega)]
   rfl
  ·show jd (n+1) _ _ _ _ _ _=_
   rw [qaN];unfold Gr;(repeat rewrite [obE]);rw [qg (show ¬ (flows.length:Int) < (flows.length:Int) by omega)]
 rw [e0]
 cases hfit:gH caps flows with
 | false=>rfl
 | true=>
  simp only [cond_true,Gn,gI,qh,qf,cond_false]
  rw [qgT hn (fit_iff.1 hfit)]
  rfl
theorem l11_16 (rates:List (List Int)) (caps:List Int) (flows:Fl) {i:Nat} (hi:i < flows.length) (hf:(flows.getD i []).length<=20) :
  qI FU rates (i:Int) 0 caps flows=some (cond ((flows.getD i []).all fun l=>decide (l.length<=20)) (.inr ()) (.inl false)):=by
 rw [<- qC (flows.getD i []) [] fun l=>decide (l.length<=20)]
 refine qB (m:=(flows.getD i []).length) (by omega) (fun n j=>qI n rates (i:Int) j caps flows) _ (fun n j hj=>?_) fun n=>?_
 ·show qI (n+1) _ _ _ _ _=_
  rw [DT];unfold G3 ck;rw [decide_eq_true (show (0:Int)<=(i:Int) by omega),decide_eq_true (show (i:Int) < (flows.length:Int) by omega)]
  simp only [cond_true,Int.toNat_natCast]
  rw [decide_eq_true (show (j:Int) < ((flows.getD i []).length:Int) by omega),decide_eq_true (show (0:Int)<=(j:Int) by omega),up1 (by omega),dgt]
  simp only [cond_true,qE]
 ·show qI (n+1) _ _ _ _ _=_
  rw [DT];unfold G3 ck;rw [decide_eq_true (show (0:Int)<=(i:Int) by omega),decide_eq_true (show (i:Int) < (flows.length:Int) by omega)]
  simp only [cond_true,Int.toNat_natCast]
  rw [decide_eq_false (show ¬ ((flows.getD i []).length:Int) < ((flows.getD i []).length:Int) by omega)]
  rfl
theorem l11_0 (rates:List (List Int)) (caps:List Int) (flows:Fl) (hl:flows.length<=20):jA FU rates 0 caps flows=some (cond (fewF flows) (.inr ()) (.inl false)):=by
 unfold fewF
 rw [<- qC flows [] fun f=>cond (decide (f.length<=20)) (f.all fun l=>decide (l.length<=20)) false]
 refine qB (m:=flows.length) (by omega) (fun n j=>jA n rates j caps flows) _ (fun n i hi=>?_) fun n=>?_
 ·show jA (n+1) _ _ _ _=_
  rw [qaL];unfold JP;(repeat rewrite [obE]);rw [decide_eq_true (show (i:Int) < (flows.length:Int) by omega),decide_eq_true (show (0:Int)<=(i:Int) by omega),up1 (by omega),dgt]
  simp only [cond_true,Int.toNat_natCast,qE]
  by_cases h:(flows.getD i []).length<=20
  ·rw [decide_eq_true h,l11_16 rates caps flows hi h]
   simp only [cond_true]
   cases (flows.getD i []).all fun l=>decide (l.length<=20)<;>rfl
  ·rw [decide_eq_false h];rfl
 ·show jA (n+1) _ _ _ _=_
  rw [qaL];unfold JP;(repeat rewrite [obE]);rw [decide_eq_false (show ¬ (flows.length:Int) < (flows.length:Int) by omega)]
  rfl
theorem l11_32 (rates:List (List Int)) (hl:rates.length<=20):qW FU rates 0=some (cond (rates.all fun l=>decide (l.length<=20)) (.inr ()) (.inl false)):=by
 rw [<- qC rates [] fun l=>decide (l.length<=20)]
 refine qB (m:=rates.length) (by omega) (fun n j=>qW n rates j) _ (fun n i hi=>?_) fun n=>?_
 ·show qW (n+1) _ _=_
  rw [DU];unfold G4;rw [decide_eq_true (show (i:Int) < (rates.length:Int) by omega),decide_eq_true (show (0:Int)<=(i:Int) by omega),up1 (by omega),dgt]
  simp only [cond_true,Int.toNat_natCast,qE]
 ·show qW (n+1) _ _=_
  rw [DU];unfold G4;rw [decide_eq_false (show ¬ (rates.length:Int) < (rates.length:Int) by omega)]
  rfl
theorem v11_eq (caps:List Int) (flows:Fl) (rates:List (List Int)) (prices:List Int):v11 caps flows rates prices=some (fewS caps flows rates prices):=by
 unfold v11 tv11 fewS;(repeat rewrite [obE])
 simp only [dgt,qE]
 by_cases h1:caps.length<=20
 case neg=>rw [decide_eq_false h1];rfl
 by_cases h2:flows.length<=20
 case neg=>rw [decide_eq_true h1,decide_eq_false h2];rfl
 by_cases h3:rates.length<=20
 case neg=>rw [decide_eq_true h1,decide_eq_true h2,decide_eq_false h3];rfl
 by_cases h4:prices.length<=20
 case neg=>rw [decide_eq_true h1,decide_eq_true h2,decide_eq_true h3,decide_eq_false h4];rfl
 rw [decide_eq_true h1,decide_eq_true h2,decide_eq_true h3,decide_eq_true h4,l11_0 rates caps flows h2,l11_32 rates h3]
 simp only [cond_true,Bool.true_and]
 cases fewF flows with
 | false=>rfl
 | true=>cases rates.all fun l=>decide (l.length<=20)<;>rfl
theorem v17_eq (caps:List Int) (flows:Fl):v17 caps flows=some (fewS caps flows [] []&&(qx caps flows&&gH caps flows)):=by
 unfold v17 tv17;(repeat rewrite [obE])
 rw [v11_eq]
 simp only [qh,qf,cond_true,qE]
 cases hx:fewS caps flows [] [] with
 | false=>rfl
 | true=>
  rw [cond_true,v15_eq (qc6 hx)]
  unfold refS
  cases qx caps flows with
  | false=>rfl
  | true=>
   rw [decide_eq_true (show (0:Int)<=0/\(0:Int)<=1000 by omega)]
   cases gH caps flows<;>rfl
theorem qd3 {caps:List Int} {flows:Fl} {r:Int} (hf:Few caps flows [] []) (hv:qx caps flows=true) (hfit:gH caps flows=true) (hr:0<=r/\r<=1000) :
  v14 caps flows r=some ((jL caps flows r).1,(jL caps flows r).2.1,(jL caps flows r).2.2,0)/\jK caps flows (jL caps flows r)/\Few caps flows (jL caps flows r).1 (jL caps flows r).2.1:=by
 have hn:=KM hv
 have hc:=hn.c1
 have hR:=KJ hn (fit_iff.1 hfit) hv r.toNat
 refine ⟨?_,hR,?_⟩
 ·rw [v14_eq hf]
  unfold qd2
  rw [hv,hfit,decide_eq_true hr];rfl
 ·obtain ⟨_,h2,h3,_⟩:=qdv hR
  unfold jb at h2
  unfold qN at h3
  rw [Bool.and_eq_true] at h2 h3
  have hl:=of_decide_eq_true h2.1
  refine qcw hn hl (fun i hi=>?_) (by
   have:=of_decide_eq_true h3.1
   show (stN caps flows (r.toNat+1)).2.2.2.2.1.length<=20
   omega)
  have:=List.all_eq_true.1 h2.2 i (List.mem_range.2 (by rw [hl];exact hi))
  by_cases c:((stN caps flows (r.toNat+1)).2.2.2.1.getD i []).length=(flows.getD i []).length
  ·exact c
  ·rw [decide_eq_false c] at this;cases this
theorem qeF {caps:List Int} {flows:Fl} {r:Int} (hv:qx caps flows=true) (hfit:gH caps flows=true) (hr:0<=r):(jL caps flows r).2.2<=(qL caps flows).2.2.1:=by
 have h:=Di (KM hv) (fit_iff.1 hfit) hv 0 r.toNat
 rw [qeI (KM hv) (fit_iff.1 hfit) hv,Nat.zero_add] at h
 exact h
theorem v4_true (caps:List Int) (flows:Fl) (r more:Int):v4 caps flows r more=some true:=by
 have hv:v10=some true:=rfl
 unfold v4 tv4;(repeat rewrite [obE])
 rw [v17_eq,hv]
 simp only [qh,qf,cond_true,qE]
 cases hx:fewS caps flows [] []&&(qx caps flows&&gH caps flows) with
 | false=>rfl
 | true=>
 rw [cond_true]
 simp only [Bool.and_eq_true] at hx
 by_cases c1:r < 0
 ·rw [qd c1]
 rw [qg c1]
 by_cases c2:more < 0
 ·rw [qd c2]
 rw [qg c2]
 by_cases c3:r > 1000
 ·rw [qd c3]
 rw [qg c3]
 by_cases c4:more > 1000
 ·rw [qd c4]
 rw [qg c4]
 have w:wI (r+more)=r+more:=qi (by omega) (by omega)
 obtain ⟨e1,_,_⟩:=qd3 (qc6 hx.1) hx.2.1 hx.2.2 (show 0<=r/\r<=1000 by omega)
 obtain ⟨e2,_,_⟩:=qd3 (qc6 hx.1) hx.2.1 hx.2.2 (show 0<=min 1000 (r+more)/\min 1000 (r+more)<=1000 by omega)
 have e3:=qgT (KM hx.2.1) (fit_iff.1 hx.2.2)
 have hp:=qeF hx.2.1 hx.2.2 (show 0<=r by omega)
 have hm:(jL caps flows (min 1000 (r+more))).2.2<=(jL caps flows r).2.2:=by
  have:=Di (KM hx.2.1) (fit_iff.1 hx.2.2) hx.2.1 r.toNat ((min 1000 (r+more)).toNat - r.toNat)
  rw [show r.toNat+((min 1000 (r+more)).toNat - r.toNat)=(min 1000 (r+more)).toNat by omega] at this
  exact this
 have e44:JG r more true caps flows=some true:=by
  unfold JG KR;(repeat rewrite [obE])
  rw [w,e1,e2,e3]
  simp [hm,hp]
 rw [e44]
 rfl
end Go.Proofs.Ytpfphfobneehmaa
set_option maxRecDepth 100000
namespace Go.Proofs.Ytpfphfobneehmaa
open Go Go.ChangeShapes Go.WideShapes Go.ChangeAt Go.RowKit Go.AM Go.TM
theorem own0:ownKnob Try.prog.godebug=none:=by kernel_rfl
theorem laid0:laidOutB Try.prog=true:=by kernel_rfl
abbrev taus:List Ty:=[.pair (.list 3 (.int .i64)) (.list 31 (.list 22 (.list 3 (.int .i64)))),.int .i64,.int .i64]
theorem args0 (x:((List Int)×(List (List (List Int))))×Int×Int×Unit):Ww Try.prog Try.f4.params.toList taus x=[.agg [.d 3 (.int .i64) x.1.1,.d 31 (.list 22 (.list 3 (.int .i64))) x.1.2],.sc (.int .i64 x.2.1),.sc (.int .i64 x.2.2.1)]:=by
 kernel_rfl
theorem law_run:∀ x:Tup taus,InTup taus x->∃ k H',TM.evF Try.prog S207.n dOk k 4 (Ww Try.prog Try.f4.params.toList taus x) []=some ([.sc (.bool true)],H'):=by
 intro x hx
 have e:=args0 x
 rw [e]
 refine ⟨41,[],(fn_eq (by kernel_rfl)).trans ((ev4 ..).trans (bD ?_))⟩
 exact v4_true _ _ _ _
theorem qeY (os:Os) (started:os.Started) (H:Type) (enc:TypeId×Value->H) :
  ReturnsInHanded {} Try.checked os 4 .any (Rows.multiRoundsSpec.pre6 enc Try.prog Try.f4 Rows.multiRoundsRow.domain false) (Rows.multiRoundsSpec.post enc Try.prog Try.f4 false true false false):=
 law_tm (C:=Try.checked) (τs:=taus) (tb:=4) (base:=base) (O:=S207.o) (T:=S207.t) own0 started (by kernel_rfl) Try.func4
  (ChangeSpec.witness6 (enc:=enc) (C:=Try.checked) false ⟨#[],#[.agg #[.slice none 0 0,.slice none 0 0],.int .i64 0,.int .i64 0],[]⟩ 8 (by kernel_rfl) (by kernel_rfl) (by kernel_rfl) (by kernel_rfl))
  laid0 (by kernel_rfl) (by kernel_rfl) rfl (by kernel_rfl) names mixed S207.ok (by kernel_rfl) (by kernel_rfl)
  (fun ds h=>by
   match ds,h with
   | [_,_,_],_=>rfl)
  law_run
theorem multiRounds_holds:Rows.MultiRoundsSaid:=
 OpenClaim.holds_of_wide 4 Try.f4 rfl rfl rfl rfl rfl rfl rfl ⟨rfl,rfl,rfl,rfl,rfl⟩ rfl rfl rfl rfl rfl (by kernel_rfl) Try.func4 (by kernel_rfl)
  (of_decide_eq_true (by kernel_rfl)) (by unfold Func.isWrapper;first | (rw [if_pos (by decide +kernel)];kernel_rfl) | (rw [if_neg (by decide +kernel)];exact ⟨rfl,rfl⟩))
  (fun os started H enc _=>qeY os started H enc)
end Go.Proofs.Ytpfphfobneehmaa
