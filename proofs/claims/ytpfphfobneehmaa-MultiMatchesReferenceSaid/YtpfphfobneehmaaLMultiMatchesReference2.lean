/- MultiMatchesReference: it returns true at every input; no conditions. -/
import Derived.Test.YtpfphfobneehmaaLMultiMatchesReference1
import Derived.Test.YtpfphfobneehmaaRows
import Derived.ProofKit
set_option linter.all false
namespace Go.Proofs.Ytpfphfobneehmaa
open Go Go.AM Go.TM Go.Proofs
section
variable {caps : List Int} {flows : Fl} {rates : List (List Int)} {prices : List Int} (h : Ok caps flows rates prices)
include h
theorem qg9 {i t:Nat} (hi:i < flows.length) (ht:t < (flows.getD i []).length):v23 (pth flows i t) prices=some (qj (pth flows i t) prices):=by
 have hl:=(h.hop i t hi ht).2
 have h0:jU FU (pth flows i t) prices 0 0=some (qj (pth flows i t) prices):=by
  refine qp (m:=(pth flows i t).length) (by omega) (fun n j (s:Int)=>jU n (pth flows i t) prices s j)
   (fun j=>ql j fun x=>prices.getD (Int.toNat ((pth flows i t).getD x 0)) 0) (qj (pth flows i t) prices) (fun n j hj=>?_) fun n=>?_
  ·show jU (n+1) _ _ _ _=jU n _ _ _ _
   have hk:=h.link i t j hi ht hj
   have hpl:=h.pl
   have hb:=qaS h (i:=i) (t:=t) (j:=j+1) (by omega)
   have hs:ql (j+1) (fun x=>prices.getD (Int.toNat ((pth flows i t).getD x 0)) 0)=ql j (fun x=>prices.getD (Int.toNat ((pth flows i t).getD x 0)) 0)+prices.getD (Int.toNat ((pth flows i t).getD j 0)) 0:=rfl
   rw [qa4];unfold Ka ck;rw [decide_eq_true (show (j:Int) < ((pth flows i t).length:Int) by omega),decide_eq_true (show (0:Int)<=(j:Int) by omega),up1 (by omega)]
   simp only [cond_true,Int.toNat_natCast]
   rw [decide_eq_true hk.1,decide_eq_true (show (pth flows i t).getD j 0 < (prices.length:Int) by omega),<- hs,qi (by omega) (by omega)]
   rfl
  ·show jU (n+1) _ _ _ _=_
   rw [qa4];unfold Ka ck;rw [decide_eq_false (show ¬ ((pth flows i t).length:Int) < ((pth flows i t).length:Int) by omega)]
   rfl
 unfold v23 tv23;(repeat rewrite [obE])
 rw [h0];rfl
theorem l40_16 {i:Nat} (hi:i < flows.length) (hx:1<=qu (rates.getD i [])) :
  qZ FU rates prices (i:Int) (Int.tdiv (1000000000000+qu (rates.getD i []) - 1) (qu (rates.getD i []))) 0 caps flows=some (cond ((List.range (flows.getD i []).length).all fun t=>decide (1000000000000<=qj (pth flows i t) prices*qu (rates.getD i []))) (.inr ()) (.inl false)):=by
 have h4:=(h.sub i hi).2
 refine qC (m:=(flows.getD i []).length) (by omega) (fun n j=>qZ n rates prices (i:Int) (Int.tdiv (1000000000000+qu (rates.getD i []) - 1) (qu (rates.getD i []))) j caps flows) _ (fun n j hj=>?_) fun n=>?_
 ·show qZ (n+1) _ _ _ _ _ _ _=_
  have hp:=G8 h (i:=i) (t:=j)
  have hc:=KN (p:=qu (rates.getD i [])) (x:=qj (pth flows i j) prices) (c:=1000000000000) (by omega) hp.1 (by omega)
  rw [Int.mul_comm] at hc
  rw [So];unfold Jn ck;(repeat rewrite [obE]);rw [Int.toNat_natCast,Int.toNat_natCast,decide_eq_true (show (0:Int)<=(i:Int) by omega),decide_eq_true (show (i:Int) < (flows.length:Int) by omega),decide_eq_true (show (j:Int) < ((flows.getD i []).length:Int) by omega),decide_eq_true (show (0:Int)<=(j:Int) by omega),up1 (by omega),qg9 h hi hj,qh,qf]
  simp only [cond_true]
  generalize hP:qj (pth flows i j) prices=p at*
  generalize hX:qu (rates.getD i [])=y at*
  by_cases c:p*y < 1000000000000
  ·rw [decide_eq_true (hc.2 c),decide_eq_false (show ¬ 1000000000000<=p*y by omega)];rfl
  ·rw [decide_eq_false (show ¬ _ from fun e=>c (hc.1 e)),decide_eq_true (show 1000000000000<=p*y by omega)];rfl
 ·show qZ (n+1) _ _ _ _ _ _ _=_
  rw [So];unfold Jn ck;(repeat rewrite [obE]);rw [decide_eq_true (show (0:Int)<=(i:Int) by omega),decide_eq_true (show (i:Int) < (flows.length:Int) by omega)]
  simp only [cond_true,Int.toNat_natCast]
  rw [decide_eq_false (show ¬ ((flows.getD i []).length:Int) < ((flows.getD i []).length:Int) by omega)]
  rfl
theorem v40_eq:v40 caps flows rates prices=some (gy caps flows rates prices):=by
 have hf:=h.few.hf
 have hr:=h.rl
 have h0:jJ FU rates prices 0 caps flows=some (cond (Gg flows rates prices) (.inr ()) (.inl false)):=by
  unfold Gg
  refine qC (m:=flows.length) (by omega) (fun n j=>jJ n rates prices j caps flows) _ (fun n i hi=>?_) fun n=>?_
  ·show jJ (n+1) _ _ _ _ _=_
   have hx:=qeV h i
   have hl:=h.sub i hi
   have e1:=v21_eq h i
   have e16:=l40_16 h hi
   rw [qbk];unfold GG ck;(repeat rewrite [obE]);rw [Int.toNat_natCast,decide_eq_true (show (i:Int) < (flows.length:Int) by omega),decide_eq_true (show (0:Int)<=(i:Int) by omega),decide_eq_true (show (i:Int) < (rates.length:Int) by omega),up1 (by omega)]
   generalize v21 (rates.getD i [])=o1 at*
   subst e1
   rw [qh,qf]
   simp only [cond_true]
   by_cases c:qu (rates.getD i []) < 1
   ·rw [decide_eq_true c]
    have hz:qu (rates.getD i [])=0:=by omega
    have:((List.range (flows.getD i []).length).all fun t=>decide (1000000000000<=qj (pth flows i t) prices*qu (rates.getD i [])))=false:=by
     rw [Bool.eq_false_iff]
     intro ha
     have:=List.all_eq_true.1 ha 0 (List.mem_range.2 (by omega))
     rw [hz,Int.mul_zero] at this
     simp at this
    rw [this];rfl
   ·have w1:wI (1000000000000+qu (rates.getD i []))=1000000000000+qu (rates.getD i []):=qi (by omega) (by omega)
    have w2:wI (1000000000000+qu (rates.getD i []) - 1)=1000000000000+qu (rates.getD i []) - 1:=qi (by omega) (by omega)
    have hc2:=HL (p:=qu (rates.getD i [])) (c:=1000000000000) (by omega) (by omega)
    have w3:wI (Int.tdiv (1000000000000+qu (rates.getD i []) - 1) (qu (rates.getD i [])))=Int.tdiv (1000000000000+qu (rates.getD i []) - 1) (qu (rates.getD i [])):=qi (by omega) (by omega)
    rw [decide_eq_false c,decide_eq_true (show qu (rates.getD i [])≠0 by omega)]
    simp only [cond_true,cond_false,w1,w2,w3]
    rw [e16 (by omega)]
    cases (List.range (flows.getD i []).length).all fun t=>decide (1000000000000<=qj (pth flows i t) prices*qu (rates.getD i []))<;>rfl
  ·show jJ (n+1) _ _ _ _ _=_
   rw [qbk];unfold GG ck;(repeat rewrite [obE]);rw [decide_eq_false (show ¬ (flows.length:Int) < (flows.length:Int) by omega)]
   rfl
 unfold v40 tv40 gy;(repeat rewrite [obE])
 rw [v20_eq h,h0]
 cases q9 caps flows rates with
 | false=>rfl
 | true=>cases Gg flows rates prices<;>rfl
theorem v41_eq:v41 caps flows prices=some (qH caps prices):=by
 have hp:=h.few.hp
 have hpl:=h.pl
 have h0:ga FU prices 0 0 caps flows=some (qH caps prices):=by
  refine qp (m:=prices.length) (by omega) (fun n j (s:Int)=>ga n prices s j caps flows) (fun j=>ql j fun k=>prices.getD k 0*caps.getD k 0) (qH caps prices) (fun n k hk=>?_) fun n=>?_
  ·show ga (n+1) _ _ _ _ _=ga n _ _ _ _ _
   have hb:=JQ h (j:=k+1) (by omega)
   have hb0:=JQ h (j:=k) (by omega)
   have hs:ql (k+1) (fun k=>prices.getD k 0*caps.getD k 0)=ql k (fun k=>prices.getD k 0*caps.getD k 0)+prices.getD k 0*caps.getD k 0:=rfl
   have hm0:0<=prices.getD k 0*caps.getD k 0:=Int.mul_nonneg (h.price k).1 (h.cap k).1
   rw [qbl];unfold Ki ck;rw [decide_eq_true (show (k:Int) < (prices.length:Int) by omega),decide_eq_true (show (0:Int)<=(k:Int) by omega),decide_eq_true (show (k:Int) < (caps.length:Int) by omega),up1 (by omega)]
   simp only [cond_true,Int.toNat_natCast]
   rw [qi (x:=prices.getD k 0*caps.getD k 0) (by omega) (by omega),<- hs,qi (by omega) (by omega)]
  ·show ga (n+1) _ _ _ _ _=_
   rw [qbl];unfold Ki ck;rw [decide_eq_false (show ¬ (prices.length:Int) < (prices.length:Int) by omega)]
   rfl
 unfold v41 tv41;(repeat rewrite [obE])
 rw [h0];rfl
end
theorem v38_eq {caps:List Int} {flows:Fl} {rates:List (List Int)} {prices:List Int} (hf:Few caps flows rates prices):v38 caps flows rates prices=some (gn caps flows rates prices):=by
 unfold v38 tv38 gn;(repeat rewrite [obE])
 rw [qeF hf,v19_eq hf,qhb hf]
 simp only [qh,qf,cond_true,qE]
 cases h1:qw caps flows with
 | false=>rfl
 | true=>
  cases h2:ja flows rates with
  | false=>rfl
  | true=>
   cases h3:qN caps prices with
   | false=>rfl
   | true=>
    have h:=ok_of hf h1 h2 h3
    have hc:=JQ h (j:=prices.length) hf.hp
    have hfl:=hf.hf
    have hc':0<=qH caps prices/\qH caps prices<=20*(1000000000000*1000):=hc
    rw [v40_eq h,v41_eq h]
    simp only [qh,qf,cond_true,Bool.and_self]
    have w1:wI (1000000*(flows.length:Int))=1000000*(flows.length:Int):=qi (by omega) (by omega)
    have w2:wI (qH caps prices - 1000000*(flows.length:Int))=qH caps prices - 1000000*(flows.length:Int):=qi (by omega) (by omega)
    simp only [w1,w2]
    cases gy caps flows rates prices with
    | false=>rfl
    | true=>
     simp only [cond_true]
     generalize max 0 (qH caps prices - 1000000*(flows.length:Int))=g
     by_cases c:g<=1000000000000
     ·rw [decide_eq_true c,decide_eq_false (show ¬ g > 1000000000000 by omega)];rfl
     ·rw [decide_eq_false c,decide_eq_true (show g > 1000000000000 by omega)];rfl
def cq (a d:Int):Int:=Int.tdiv (a+d - 1) d
theorem qcI {a d z:Int} (ha:0<=a) (hd:1<=d):cq a d<=z↔a<=z*d:=by
 unfold cq
 rw [Int.tdiv_eq_ediv_of_nonneg (by omega)]
 constructor
 ·intro h
  have h1:(a+d - 1) / d < z+1:=by omega
  have h2:=(Int.ediv_lt_iff_lt_mul (show 0 < d by omega)).1 h1
  rw [Int.add_mul,Int.one_mul] at h2
  omega
 ·intro h
  have h2:(a+d - 1) / d < z+1:=(Int.ediv_lt_iff_lt_mul (show 0 < d by omega)).2 (by rw [Int.add_mul,Int.one_mul];omega)
  omega
theorem qd8 {a b:Int} (h:∀ z,a<=z↔b<=z):a=b:=Int.le_antisymm ((h b).2 (Int.le_refl _)) ((h a).1 (Int.le_refl _))
theorem cq_two {x h:Int} (hx:1<=x) (hh:1<=h):cq (qt x*1024) (1024*h)=cq 1000000000000 (h*x):=by
 have hn:=(Gt hx).2.1
 have hhx:1<=h*x:=by have:=Int.mul_le_mul hh hx (by omega) (by omega);omega
 refine qd8 fun z=>?_
 rw [qcI (by omega) (by omega),qcI (by omega) hhx]
 have e1:z*(1024*h)=1024*(z*h):=by rw [<- Int.mul_assoc,Int.mul_comm z 1024,Int.mul_assoc]
 have e2:z*(h*x)=z*h*x:=(Int.mul_assoc _ _ _).symm
 have e3:qt x<=z*h↔1000000000000<=z*h*x:=qcI (a:=1000000000000) (d:=x) (z:=z*h) (by omega) hx
 rw [e1,e2,<- e3]
 constructor<;>intro h<;>omega
def mxN (c:Nat->Int):Nat->Int
 | 0=>0
 | i+1=>max (mxN c i) (c i)
theorem mx_nm {x l h:Nat->Int} {m:Nat} (hx:∀ i,i < m->1<=x i) (hh:∀ i,i < m->1<=h i/\h i<=6) (hl:∀ i,i < m->l i=1024*h i):∀ j,j<=m->mxN (fun i=>cq 1000000000000 (h i*x i)) j=cq ((nmN x l j).1*1024) (nmN x l j).2
 | 0,_=>rfl
 | j+1,hj=>by
  have ih:=mx_nm hx hh hl j (by omega)
  have hb:=(qaR (x:=x) (l:=l) (m:=m) hx (fun i hi=>by have:=hl i hi;have:=hh i hi;omega) j (by omega))
  have hxj:=hx j (by omega)
  have hhj:=hh j (by omega)
  have hlj:=hl j (by omega)
  have hn:=(Gt hxj).2.1
  show max (mxN _ j) (cq 1000000000000 (h j*x j))=cq ((nmF (x j) (l j) (nmN x l j)).1*1024) (nmF (x j) (l j) (nmN x l j)).2
  rw [ih,<- cq_two hxj hhj.1]
  unfold nmF
  generalize nmN x l j=s at*
  have key:∀ {a b c d:Int},0<=a->1<=b->0<=c->1<=d->a*d<=c*b->cq (a*1024) b<=cq (c*1024) d:=by
   intro a b c d ha hb hc hd h
   rw [qcI (by omega) hb]
   have h1:=(qcI (a:=c*1024) (d:=d) (z:=cq (c*1024) d) (by omega) hd).1 (Int.le_refl _)
   generalize cq (c*1024) d=z at*
   have h2:c*1024*b<=z*d*b:=Int.mul_le_mul_of_nonneg_right h1 (by omega)
   have h3:a*d*1024<=c*b*1024:=Int.mul_le_mul_of_nonneg_right h (by omega)
   have e1:c*1024*b=c*b*1024:=by rw [Int.mul_assoc,Int.mul_comm 1024,<- Int.mul_assoc]
   have e2:z*d*b=z*b*d:=by rw [Int.mul_assoc,Int.mul_comm d,<- Int.mul_assoc]
   have e3:a*d*1024=a*1024*d:=by rw [Int.mul_assoc,Int.mul_comm d,<- Int.mul_assoc]
   exact Int.le_of_mul_le_mul_right (a:=d) (by omega) (by omega)
  by_cases c:s.1*l j < qt (x j)*s.2
  ·rw [qd c]
   have:=key hb.1.1 hb.2.1.1 (show 0<=qt (x j) by omega) (show 1<=1024*h j by omega) (by rw [<- hlj];omega)
   simp only
   rw [hlj]
   omega
  ·rw [qe c]
   have:=key (show 0<=qt (x j) by omega) (show 1<=1024*h j by omega) hb.1.1 hb.2.1.1 (by rw [<- hlj];omega)
   omega
section
variable {caps : List Int} {flows : Fl} (hn : Nw caps flows) (hfit : Fit caps flows)
include hn hfit
theorem now_sum {i:Nat} (hi:i < flows.length) {b:Nat} (hb:b < (flows.getD i []).length) (hc:(chS caps flows (w0L caps.length) i).1=(b:Int)) (k:Nat) :
  (ql (flows.getD i []).length fun t=>pk (pth flows i t) (rt (qg caps flows (w0L caps.length)) i t) k)=pk (pth flows i b) (qQ caps flows (w0L caps.length) i b) k:=by
 obtain ⟨b',hb',_,hc',_,_,_,h0⟩:=Ge hn (gD _) hfit hi
 have e:b'=b:=by omega
 subst e
 rw [gG hb fun t ht hne=>?_]
 ·rw [show rt (qg caps flows (w0L caps.length)) i b'=qQ caps flows (w0L caps.length) i b' from qF _ hi hb]
 ·rw [show rt (qg caps flows (w0L caps.length)) i t=qQ caps flows (w0L caps.length) i t from qF _ hi ht,h0 t hne]
  rcases gI hn hi ht k with e | ⟨e,_⟩<;>rw [e]
theorem l18_16 {i b:Nat} (hi:i < flows.length) (hb:b < (flows.getD i []).length) {r:Int} (hr:r=1000000000 / ((pth flows i b).length:Int)) (f:Nat->Int) (hf:∀ k,0<=f k/\f k<=100000000000000) :
  qP FU (i:Int) (pth flows i b) 0 caps flows 0 (tab caps.length f) [] []=some (tab caps.length fun k=>f k+pk (pth flows i b) r k):=by
 have hl:=hn.hop i b hi hb
 have hr1:0<=r/\r<=1000000000:=by
  rw [hr]
  exact ⟨Int.ediv_nonneg (by omega) (by omega),Int.ediv_le_self _ (by omega)⟩
 have hrd:Int.tdiv 1000000000 ((pth flows i b).length:Int)=r:=by rw [hr];exact Int.tdiv_eq_ediv_of_nonneg (by omega)
 have:=qp (m:=(pth flows i b).length) (by omega) (fun n j (s:List Int)=>qP n (i:Int) (pth flows i b) j caps flows 0 s [] [])
  (fun j=>tab caps.length fun k=>f k+ql j fun t'=>cond ((pth flows i b).getD t' 0==(k:Int)) r 0) (tab caps.length fun k=>f k+pk (pth flows i b) r k) (fun n j hj=>?_) fun n=>?_
 ·simp only [ql,Int.add_zero] at this
  exact this
 ·show qP (n+1) _ _ _ _ _ _ _ _ _=qP n _ _ _ _ _ _ _ _ _
  have hk:=hn.link i b j hi hb hj
  obtain ⟨p,hp⟩:∃ p:Nat,(pth flows i b).getD j 0=(p:Int):=⟨Int.toNat ((pth flows i b).getD j 0),by omega⟩
  have hpc:p < caps.length:=by omega
  rw [D5];unfold Jc ck;rw [qd (show (j:Int) < ((pth flows i b).length:Int) by omega),qd (show (0:Int)<=(j:Int) by omega),up1 (by omega)]
  simp only [Int.toNat_natCast,hp,qq,hrd]
  rw [qd (show (0:Int)<=(p:Int) by omega),qd (show (p:Int) < (caps.length:Int) by omega),qd hpc,qd (show ((pth flows i b).length:Int)≠0 by omega),qr _ hpc,qU,qi (x:=r) (by omega) (by omega)]
  congr 1
  apply qm
  intro k hkc
  have hbd:=qB (n:=j) (m:=6) (f:=fun t'=>cond ((pth flows i b).getD t' 0==(p:Int)) r 0) (c:=1000000000) (by omega) (fun t' _=>by
   cases ((pth flows i b).getD t' 0==(p:Int)) with
   | true=>exact hr1
   | false=>exact ⟨Int.le_refl _,by show (0:Int)<=_;omega⟩) (by omega)
  have hfp:=hf p
  rw [qdj,hp]
  by_cases hkp:k=p
  ·subst hkp
   rw [if_pos rfl,qi (by omega) (by omega),beq_self_eq_true,cond_true]
   omega
  ·rw [if_neg hkp,show ((p:Int)==(k:Int))=false from beq_false_of_ne (by omega),cond_false,Int.add_zero]
 ·show qP (n+1) _ _ _ _ _ _ _ _ _=_
  rw [D5];unfold Jc ck;rw [qe (show ¬ ((pth flows i b).length:Int) < ((pth flows i b).length:Int) by omega)]
  rfl
theorem l18_0:jS FU 0 caps flows 0 (List.replicate caps.length 0) [] []=some (ldL caps flows (qg caps flows (w0L caps.length))):=by
 have hfl:=hn.f1
 have hnow:=Gf hn (gD caps.length) hfit
 have e1:List.replicate caps.length (0:Int)=Ld caps flows (qg caps flows (w0L caps.length)) 0 0:=qG _
 have e3:Ld caps flows (qg caps flows (w0L caps.length)) flows.length 0=ldL caps flows (qg caps flows (w0L caps.length)):=qm fun k _=>Int.add_zero _
 rw [e1,<- e3]
 refine qp (m:=flows.length) (by omega) (fun n j (s:List Int)=>jS n j caps flows 0 s [] []) (fun j=>Ld caps flows (qg caps flows (w0L caps.length)) j 0) _ (fun n i hi=>?_) fun n=>?_
 ·show jS (n+1) _ _ _ _ _ _ _=jS n _ _ _ _ _ _ _
  obtain ⟨b,h,hb,_,hc,hh,hh2,_,he,hv⟩:=gQ hn hfit hi
  have e35:v35 caps flows (i:Int)=some (b:Int):=by rw [qeL hn hi,hc]
  have e16:=l18_16 hn hfit hi hb (r:=qQ caps flows (w0L caps.length) i b) (by rw [he,hh]) (fun k=>(ql i fun q=>ql (flows.getD q []).length fun t=>pk (pth flows q t) (rt (qg caps flows (w0L caps.length)) q t) k)+0) (fun k=>by
   have:=qeR hn (by omega) hnow (Nat.le_of_lt hi) k
   omega)
  have e2:(tab caps.length fun k=>(ql i fun q=>ql (flows.getD q []).length fun t=>pk (pth flows q t) (rt (qg caps flows (w0L caps.length)) q t) k)+0+pk (pth flows i b) (qQ caps flows (w0L caps.length) i b) k)=Ld caps flows (qg caps flows (w0L caps.length)) (i+1) 0:=qm fun k hk=>by
   simp only [ql]
   rw [now_sum hn hfit hi hb hc];omega
  rw [qa0];unfold J6 ck;(repeat rewrite [obE]);rw [qd (show (i:Int) < (flows.length:Int) by omega),qd (show (0:Int)<=(i:Int) by omega),up1 (by omega)]
  simp only [e35,Int.toNat_natCast,qh,qf,cond_true]
  rw [qd (show (0:Int)<=(b:Int) by omega),qd (show (b:Int) < ((flows.getD i []).length:Int) by omega),show Ld caps flows (qg caps flows (w0L caps.length)) i 0=tab caps.length _ from rfl]
  have e16':qP FU (i:Int) ((flows.getD i []).getD b []) 0 caps flows 0 (tab caps.length fun k=>(ql i fun q=>ql (flows.getD q []).length fun t=>pk (pth flows q t) (rt (qg caps flows (w0L caps.length)) q t) k)+ql 0 fun t=>pk (pth flows i t) (rt (qg caps flows (w0L caps.length)) i t) k) [] []=some (Ld caps flows (qg caps flows (w0L caps.length)) (i+1) 0):=by
   rw [<- e2];exact e16
  rw [e16']
  rfl
 ·show jS (n+1) _ _ _ _ _ _ _=_
  rw [qa0];unfold J6 ck;(repeat rewrite [obE]);rw [qe (show ¬ (flows.length:Int) < (flows.length:Int) by omega)]
theorem l18_32 {ld:List Int} (hl:ld.length=caps.length) (hb:∀ k,0<=ld.getD k 0/\ld.getD k 0<=3000000000000000):jk FU (-1) 0 caps flows 0 ld [] []=some (tgN caps ld caps.length):=by
 have hc:=hn.c1
 refine qp (m:=caps.length) (by omega) (fun n j (s:Int)=>jk n s j caps flows 0 ld [] []) (tgN caps ld) (tgN caps ld caps.length) (fun n k hk=>?_) fun n=>?_
 ·show jk (n+1) _ _ _ _ _ _ _ _=jk n (tgF caps ld k (tgN caps ld k)) _ _ _ _ _ _ _
  have hs:=K3 caps ld k
  rw [D6];unfold Jd ck;rw [qd (show (k:Int) < (ld.length:Int) by omega),qd (show (0:Int)<=(k:Int) by omega),up1 (by omega)]
  simp only [Int.toNat_natCast]
  rw [qd (show k < ld.length by omega)]
  unfold tgF
  by_cases c:ld.getD k 0 > 0
  ·rw [qd c,qd c]
   rcases hs with ⟨h1,_⟩ | ⟨b,h1,h2,_,_⟩
   ·rw [h1,qd (show (-1:Int) < 0 by omega),qd (show (-1:Int) < 0 by omega)]
   ·have hb1:=hb k
    have hb2:=hb b
    have hc1:=hn.cap k
    have hc2:=hn.cap b
    have p1:=Int.mul_le_mul hc1.2 hb2.2 hb2.1 (by omega)
    have p2:=Int.mul_le_mul hc2.2 hb1.2 hb1.1 (by omega)
    have p3:=Int.mul_nonneg hc1.1 hb2.1
    have p4:=Int.mul_nonneg hc2.1 hb1.1
    rw [h2,qe (show ¬ (b:Int) < 0 by omega),qe (show ¬ (b:Int) < 0 by omega),qd (show (k:Int) < (caps.length:Int) by omega),qd (show (0:Int)<=(b:Int) by omega),qd (show (b:Int) < (ld.length:Int) by omega),Int.toNat_natCast,qd (show b < ld.length by omega),qd (show (b:Int) < (caps.length:Int) by omega)]
    have w1:wI (caps.getD k 0*ld.getD b 0)=caps.getD k 0*ld.getD b 0:=qi (by omega) (by omega)
    have w2:wI (caps.getD b 0*ld.getD k 0)=caps.getD b 0*ld.getD k 0:=qi (by omega) (by omega)
    simp only [w1,w2]
    cases decide (caps.getD k 0*ld.getD b 0 < caps.getD b 0*ld.getD k 0)<;>rfl
  ·rw [qe c,qe c]
 ·show jk (n+1) _ _ _ _ _ _ _ _=_
  rw [D6];unfold Jd ck;rw [qe (show ¬ (caps.length:Int) < (ld.length:Int) by omega)]
def KV (caps:List Int) (flows:Fl) (i:Nat):Int:=qs caps flows (w0L caps.length) i / 1024
def clA (caps:List Int) (flows:Fl) (i:Nat):Int:=cq 1000000000000 (KV caps flows i*qo caps flows (qg caps flows (w0L caps.length)) i)
theorem l18_48:jl FU (tgS caps flows (qg caps flows (w0L caps.length)):Int) 0 0 caps flows 0 0 (ldL caps flows (qg caps flows (w0L caps.length))) [] [] [] []=some (mxN (clA caps flows) flows.length,scR caps flows (qg caps flows (w0L caps.length))):=by
 have hfl:=hn.f1
 have hnow:=Gf hn (gD caps.length) hfit
 have hnz:=G7 hn (gD caps.length) hfit
 have ht:=Gj hn hnow hnz
 have hg:=gE hn hnow hnz
 refine qp (m:=flows.length) (by omega) (fun n j (s:Int×List (List Int))=>jl n (tgS caps flows (qg caps flows (w0L caps.length)):Int) s.1 j caps flows 0 0 (ldL caps flows (qg caps flows (w0L caps.length))) [] [] s.2 [])
  (fun j=>(mxN (clA caps flows) j,(List.range j).map fun i=>tab (flows.getD i []).length (scS caps flows (qg caps flows (w0L caps.length)) i))) _ (fun n i hi=>?_) fun n=>?_
 ·show jl (n+1) _ _ _ _ _ _ _ _ _ _ _ _=jl n _ _ _ _ _ _ _ _ _ _ _ _
  obtain ⟨b,h,hb,_,hc,hh,hh2,hl,he,hv⟩:=gQ hn hfit hi
  have h4:=hn.sub i hi
  have e35:v35 caps flows (i:Int)=some (b:Int):=by rw [qeL hn hi,hc]
  have hlen:((flows.getD i []).getD b []).length=(pth flows i b).length:=rfl
  have hld:(ldL caps flows (qg caps flows (w0L caps.length))).length=caps.length:=qq _ _
  have hlg:(ldL caps flows (qg caps flows (w0L caps.length))).getD (tgS caps flows (qg caps flows (w0L caps.length))) 0=qn flows (qg caps flows (w0L caps.length)) (tgS caps flows (qg caps flows (w0L caps.length))):=qr _ ht.2.1
  have hct:=hn.cap (tgS caps flows (qg caps flows (w0L caps.length)))
  obtain ⟨b',_,_,hc',_,_,_,h0⟩:=Ge hn (gD _) hfit hi
  have hbb:b'=b:=by omega
  subst hbb
  have hnb:rt (qg caps flows (w0L caps.length)) i b'=qQ caps flows (w0L caps.length) i b':=qF _ hi hb
  have htot:qo caps flows (qg caps flows (w0L caps.length)) i=scS caps flows (qg caps flows (w0L caps.length)) i b':=by
   unfold qo qu scR
   rw [JR _ hi,qq,gG hb fun t ht' hne=>?_,qr _ hb]
   rw [qr _ ht']
   unfold scS
   rw [show rt (qg caps flows (w0L caps.length)) i t=qQ caps flows (w0L caps.length) i t from qF _ hi ht',h0 t hne,Int.zero_mul,Int.zero_ediv]
  have hx:=Kt hn hfit hi
  have hsb:=qcQ hn hnow hnz hi hb
  have p1:=Int.mul_le_mul hv.2 hct.2 hct.1 (by omega)
  have p2:=Int.mul_nonneg (show 0<=1000000000 / h by omega) hct.1
  have hval:Int.tdiv (1000000000 / h*caps.getD (tgS caps flows (qg caps flows (w0L caps.length))) 0*1000000) (qn flows (qg caps flows (w0L caps.length)) (tgS caps flows (qg caps flows (w0L caps.length))))=scS caps flows (qg caps flows (w0L caps.length)) i b':=by
   rw [Int.tdiv_eq_ediv_of_nonneg (by omega)]
   unfold scS
   rw [hnb,he,Int.mul_assoc,Int.mul_comm (caps.getD _ 0) 1000000]
  have hset:(List.replicate (flows.getD i []).length (0:Int)).set b' (scS caps flows (qg caps flows (w0L caps.length)) i b')=tab (flows.getD i []).length (scS caps flows (qg caps flows (w0L caps.length)) i):=by
   rw [qG,qU]
   refine qm fun t ht'=>?_
   by_cases c:t=b'
   ·rw [if_pos c,c]
   ·rw [if_neg c]
    unfold scS
    rw [show rt (qg caps flows (w0L caps.length)) i t=qQ caps flows (w0L caps.length) i t from qF _ hi ht',h0 t c,Int.zero_mul,Int.zero_ediv]
  have hq:Int.tdiv 1000000000 (((flows.getD i []).getD b' []).length:Int)=1000000000 / h:=by
   rw [hlen,<- hh];exact Int.tdiv_eq_ediv_of_nonneg (by omega)
  have hhop:KV caps flows i=h:=by unfold KV;rw [hl];omega
  have e204:gt (tgS caps flows (qg caps flows (w0L caps.length)):Int) (mxN (clA caps flows) i) (i:Int) (tab (flows.getD i []).length (scS caps flows (qg caps flows (w0L caps.length)) i)) (b':Int) (((flows.getD i []).getD b' []).length:Int) caps flows 0 0 (ldL caps flows (qg caps flows (w0L caps.length))) [] [] ((List.range i).map fun i=>tab (flows.getD i []).length (scS caps flows (qg caps flows (w0L caps.length)) i)) []=
    some (mxN (clA caps flows) (i+1),(List.range (i+1)).map fun i=>tab (flows.getD i []).length (scS caps flows (qg caps flows (w0L caps.length)) i)):=by
   have hx2:scS caps flows (qg caps flows (w0L caps.length)) i b'=qo caps flows (qg caps flows (w0L caps.length)) i:=htot.symm
   have hlen':(((flows.getD i []).getD b' []).length:Int)=h:=by rw [hlen,<- hh]
   have htg:(tab (flows.getD i []).length (scS caps flows (qg caps flows (w0L caps.length)) i)).getD b' 0=qo caps flows (qg caps flows (w0L caps.length)) i:=(qr _ hb).trans hx2
   have m1:=Int.mul_le_mul hh2.2 (show qo caps flows (qg caps flows (w0L caps.length)) i<=1000000000 by omega) (by omega) (by omega)
   have m2:=Int.mul_le_mul hh2.1 (show 20833<=qo caps flows (qg caps flows (w0L caps.length)) i from hx) (by omega) (by omega)
   have w1:wI (h*qo caps flows (qg caps flows (w0L caps.length)) i)=h*qo caps flows (qg caps flows (w0L caps.length)) i:=qi (by omega) (by omega)
   have hcl:Int.tdiv (1000000000000+h*qo caps flows (qg caps flows (w0L caps.length)) i - 1) (h*qo caps flows (qg caps flows (w0L caps.length)) i)=clA caps flows i:=by unfold clA cq;rw [hhop]
   have hcb:=HL (p:=h*qo caps flows (qg caps flows (w0L caps.length)) i) (c:=1000000000000) (by omega) (by omega)
   have w2:wI (1000000000000+h*qo caps flows (qg caps flows (w0L caps.length)) i)=1000000000000+h*qo caps flows (qg caps flows (w0L caps.length)) i:=qi (by omega) (by omega)
   have w3:wI (1000000000000+h*qo caps flows (qg caps flows (w0L caps.length)) i - 1)=1000000000000+h*qo caps flows (qg caps flows (w0L caps.length)) i - 1:=qi (by omega) (by omega)
   have w4:wI (clA caps flows i)=clA caps flows i:=qi (by rw [<- hcl];omega) (by rw [<- hcl];omega)
   unfold gt KZ ck
   simp only [List.length_map,List.length_range,List.length_cons,List.length_nil,qq,Int.toNat_natCast,htg,hlen',w1,w2,w3,hcl,w4]
   rw [qd (show i+(0+1)<=2147483648 by omega),qd (show (0:Int)<=(b':Int) by omega),qd (show (b':Int) < ((flows.getD i []).length:Int) by omega),qd (show h*qo caps flows (qg caps flows (w0L caps.length)) i≠0 by omega),List.range_succ,List.map_append]
   rfl
  rw [D7];unfold Je ck;(repeat rewrite [obE]);rw [qd (show (i:Int) < (flows.length:Int) by omega),qd (show (0:Int)<=(i:Int) by omega),up1 (by omega)]
  simp only [e35,Int.toNat_natCast,qh,qf,cond_true,List.length_replicate,hq,hld,hlg]
  rw [qd (Int.le_refl _),qd (show ((flows.getD i []).length:Int)<=((2147483648:Nat):Int) by omega),qd (show (0:Int)<=(b':Int) by omega),qd (show (b':Int) < ((flows.getD i []).length:Int) by omega),qd (show (((flows.getD i []).getD b' []).length:Int)≠0 by rw [hlen];omega),qd (show (0:Int)<=(tgS caps flows (qg caps flows (w0L caps.length)):Int) by omega),qd (show (tgS caps flows (qg caps flows (w0L caps.length)):Int) < (caps.length:Int) by omega),qd (show (tgS caps flows (qg caps flows (w0L caps.length)):Int) < (caps.length:Int) by omega),qd ht.2.1,qd (show qn flows (qg caps flows (w0L caps.length)) (tgS caps flows (qg caps flows (w0L caps.length)))≠0 by omega),qd (show (b':Int) < ((flows.getD i []).length:Int) by omega),qd hb]
  rw [qi (x:=1000000000 / h) (by omega) (by omega),qi (x:=1000000000 / h*caps.getD (tgS caps flows (qg caps flows (w0L caps.length))) 0) (by omega) (by omega),qi (x:=1000000000 / h*caps.getD (tgS caps flows (qg caps flows (w0L caps.length))) 0*1000000) (by omega) (by omega),hval,qi (x:=scS caps flows (qg caps flows (w0L caps.length)) i b') (by omega) (by omega),hset,e204]
  rfl
 ·show jl (n+1) _ _ _ _ _ _ _ _ _ _ _ _=_
  rw [D7];unfold Je ck;(repeat rewrite [obE]);rw [qe (show ¬ (flows.length:Int) < (flows.length:Int) by omega)]
  rfl
end
theorem qcP (f:Nat->Bool) (j:Nat):(List.range (j+1)).any f=((List.range j).any f||f j):=by rw [List.range_succ,List.any_append];simp
def onF (flows:Fl) (k:Int) (i:Nat):Bool:=(List.range (flows.getD i []).length).any fun t=>((flows.getD i []).getD t []).any (·==k)
def onN (flows:Fl) (k:Int):Bool:=(List.range flows.length).any (onF flows k)
section
variable {caps : List Int} {flows : Fl} (hn : Nw caps flows)
include hn
theorem one_ld {i t j:Nat} (hi:i < flows.length) (ht:t < (flows.getD i []).length) (hj:j < (pth flows i t).length):qn flows (qA flows) ((pth flows i t).getD j 0).toNat > 0:=by
 have hg2:∀ i' t',i' < flows.length->t' < (flows.getD i' []).length->0<=pk (pth flows i' t') (rt (qA flows) i' t') ((pth flows i t).getD j 0).toNat:=fun i' t' hi' ht'=>by
  have e:rt (qA flows) i' t'=1:=qF _ hi' ht'
  rw [e]
  rcases gI hn hi' ht' ((pth flows i t).getD j 0).toNat with h | ⟨h,_⟩<;>rw [h]<;>omega
 have h1:=jQ (flows.getD i []).length (f:=fun t'=>pk (pth flows i t') (rt (qA flows) i t') ((pth flows i t).getD j 0).toNat) ht (fun t' ht'=>hg2 i t' hi ht')
 have h2:=jQ flows.length (f:=fun i'=>ql (flows.getD i' []).length fun t'=>pk (pth flows i' t') (rt (qA flows) i' t') ((pth flows i t).getD j 0).toNat) hi (fun i' hi'=>jB fun t' ht'=>hg2 i' t' hi' ht')
 have e:rt (qA flows) i t=1:=qF _ hi ht
 simp only [qcO hn hi ht hj,e] at h1
 exact Int.lt_of_lt_of_le (show (0:Int) < 1 by omega) (Int.le_trans h1 h2)
theorem one_on (k:Nat):decide (qn flows (qA flows) k > 0)=onN flows (k:Int):=by
 rw [Bool.eq_iff_iff,decide_eq_true_iff]
 constructor
 ·intro h
  obtain ⟨i,hi,h1⟩:=KY h
  obtain ⟨t,ht,h2⟩:=KY h1
  rcases gI hn hi ht k with h3 | ⟨h3,j,hj,hk⟩
  ·rw [h3] at h2;omega
  ·exact List.any_eq_true.2 ⟨i,List.mem_range.2 hi,List.any_eq_true.2 ⟨t,List.mem_range.2 ht,List.any_eq_true.2 ⟨_,qT hj 0,by rw [hk];exact beq_self_eq_true _⟩⟩⟩
 ·intro h
  obtain ⟨i,hi,h1⟩:=List.any_eq_true.1 h
  obtain ⟨t,ht,h2⟩:=List.any_eq_true.1 h1
  rw [<- Ks _ (0:Int) fun x=>x==(k:Int)] at h2
  obtain ⟨j,hj,h3⟩:=List.any_eq_true.1 h2
  have e:((flows.getD i []).getD t []).getD j 0=(k:Int):=by simpa using h3
  have:=one_ld hn (List.mem_range.1 hi) (List.mem_range.1 ht) (j:=j) (List.mem_range.1 hj)
  rwa [show (pth flows i t).getD j 0=(k:Int) from e,Int.toNat_natCast] at this
theorem l18_96 {i:Nat} (hi:i < flows.length) (price p:Int) (k:Nat) (rates:List (List Int)) (prices:List Int) :
  jn FU price (k:Int) p (i:Int) 0 caps flows 0 0 [] [] rates prices=some (cond (onF flows (k:Int) i) price p):=by
 have h4:=hn.sub i hi
 refine qp (m:=(flows.getD i []).length) (by omega) (fun n j (s:Int)=>jn n price (k:Int) s (i:Int) j caps flows 0 0 [] [] rates prices) (fun j=>cond ((List.range j).any fun t=>((flows.getD i []).getD t []).any (·==(k:Int))) price p) _ (fun n t ht=>?_) fun n=>?_
 ·show jn (n+1) _ _ _ _ _ _ _ _ _ _ _ _ _=jn n _ _ (cond ((List.range (t+1)).any fun t=>((flows.getD i []).getD t []).any (·==(k:Int))) price p) _ _ _ _ _ _ _ _ _ _
  have hp:=hn.hop i t hi ht
  have e37:=qhc ((flows.getD i []).getD t []) (show (pth flows i t).length<=20 by omega) (k:Int)
  rw [Sa];unfold Jg ck;(repeat rewrite [obE]);rw [qd (show (0:Int)<=(i:Int) by omega),qd (show (i:Int) < (flows.length:Int) by omega)]
  simp only [Int.toNat_natCast]
  rw [qd (show (t:Int) < ((flows.getD i []).length:Int) by omega),qd (show (0:Int)<=(t:Int) by omega),e37,up1 (by omega),qcP]
  simp only [qh,qf,cond_true]
  cases ((flows.getD i []).getD t []).any (·==(k:Int)) with
  | true=>rw [Bool.or_true];rfl
  | false=>rw [Bool.or_false];rfl
 ·show jn (n+1) _ _ _ _ _ _ _ _ _ _ _ _ _=_
  rw [Sa];unfold Jg ck;(repeat rewrite [obE]);rw [qd (show (0:Int)<=(i:Int) by omega),qd (show (i:Int) < (flows.length:Int) by omega)]
  simp only [Int.toNat_natCast]
  rw [qe (show ¬ ((flows.getD i []).length:Int) < ((flows.getD i []).length:Int) by omega)]
  rfl
theorem l18_80 (price:Int) (k:Nat) (rates:List (List Int)) (prices:List Int):qW FU price (k:Int) 0 0 caps flows 0 0 [] [] rates prices=some (cond (onN flows (k:Int)) price 0):=by
 have hf:=hn.f1
 refine qp (m:=flows.length) (by omega) (fun n j (s:Int)=>qW n price (k:Int) s j caps flows 0 0 [] [] rates prices) (fun j=>cond ((List.range j).any (onF flows (k:Int))) price 0) _ (fun n i hi=>?_) fun n=>?_
 ·show qW (n+1) _ _ _ _ _ _ _ _ _ _ _ _=qW n _ _ (cond ((List.range (i+1)).any (onF flows (k:Int))) price 0) _ _ _ _ _ _ _ _ _
  rw [D9];unfold gW;(repeat rewrite [obE]);rw [qd (show (i:Int) < (flows.length:Int) by omega),l18_96 hn hi,up1 (by omega),qcP]
  simp only [qh,qf,cond_true]
  cases onF flows (k:Int) i with
  | true=>rw [Bool.or_true];rfl
  | false=>rw [Bool.or_false];rfl
 ·show qW (n+1) _ _ _ _ _ _ _ _ _ _ _ _=_
  rw [D9];unfold gW;(repeat rewrite [obE]);rw [qe (show ¬ (flows.length:Int) < (flows.length:Int) by omega)]
  rfl
theorem l18_64 (price:Int) (rates:List (List Int)):jm FU price 0 caps flows 0 0 [] [] rates []=some (tab caps.length fun k=>cond (caps.getD k 0==0) 1000000000000 (cond (onN flows (k:Int)) price 0)):=by
 have hc:=hn.c1
 refine qp (m:=caps.length) (by omega) (fun n j (s:List Int)=>jm n price j caps flows 0 0 [] [] rates s) (fun j=>tab j fun k=>cond (caps.getD k 0==0) 1000000000000 (cond (onN flows (k:Int)) price 0)) _ (fun n k hk=>?_) fun n=>?_
 ·show jm (n+1) _ _ _ _ _ _ _ _ _ _=jm n _ _ _ _ _ _ _ _ _ _
  have ht:(tab (k+1) fun k=>cond (caps.getD k 0==0) 1000000000000 (cond (onN flows (k:Int)) price 0))=(tab k fun k=>cond (caps.getD k 0==0) 1000000000000 (cond (onN flows (k:Int)) price 0))++[cond (caps.getD k 0==0) 1000000000000 (cond (onN flows (k:Int)) price 0)]:=by
   unfold tab;rw [List.range_succ,List.map_append];rfl
  rw [D8];unfold Jf;(repeat rewrite [obE]);rw [qd (show (k:Int) < (caps.length:Int) by omega),l18_80 hn,up1 (by omega),ht]
  simp only [qh,qf,cond_true,Int.toNat_natCast,qq,List.length_cons,List.length_nil]
  rw [qd (show (0:Int)<=(k:Int) by omega),qd (show k+(0+1)<=2147483648 by omega),qd (show k+(0+1)<=2147483648 by omega)]
  cases caps.getD k 0==0<;>rfl
 ·show jm (n+1) _ _ _ _ _ _ _ _ _ _=_
  rw [D8];unfold Jf;(repeat rewrite [obE]);rw [qe (show ¬ (caps.length:Int) < (caps.length:Int) by omega)]
variable (hfit : Fit caps flows)
include hfit
theorem v18_eq:v18 caps flows=some ((qy caps flows).1,(qy caps flows).2.1,(qy caps flows).2.2.1):=by
 have hc:=hn.c1
 have hw:=gD caps.length
 have hnow:=Gf hn hw hfit
 have hnz:=G7 hn hw hfit
 have hfull:=Jw hn hfit
 have ht:=Gj hn hnow hnz
 have hg:=gE hn hnow hnz
 have hld:(ldL caps flows (qg caps flows (w0L caps.length))).length=caps.length:=qq _ _
 have hlb:∀ k,0<=(ldL caps flows (qg caps flows (w0L caps.length))).getD k 0/\(ldL caps flows (qg caps flows (w0L caps.length))).getD k 0<=3000000000000000:=fun k=>by
  by_cases hk:k < caps.length
  ·rw [show (ldL caps flows (qg caps flows (w0L caps.length))).getD k 0=qn flows (qg caps flows (w0L caps.length)) k from qr _ hk]
   have:=qcL hn (by omega) hnow k
   omega
  ·rw [out1 (by omega)];omega
 have e32:=l18_32 hn hfit hld hlb
 rw [ht.1] at e32
 have e48:=l18_48 hn hfit
 have hx:∀ i,i < flows.length->1<=qo caps flows (qg caps flows (w0L caps.length)) i:=fun i hi=>by have:=Kt hn hfit hi;omega
 have hh:∀ i,i < flows.length->(1<=KV caps flows i/\KV caps flows i<=6)/\qs caps flows (w0L caps.length) i=1024*KV caps flows i:=fun i hi=>by
  obtain ⟨b,h,_,_,_,_,hh2,hl,_⟩:=gQ hn hfit hi
  have:KV caps flows i=h:=by unfold KV;rw [hl];omega
  rw [this]
  exact ⟨hh2,hl⟩
 have hmx:=mx_nm (x:=qo caps flows (qg caps flows (w0L caps.length))) (l:=qs caps flows (w0L caps.length)) (h:=KV caps flows) (m:=flows.length) hx (fun i hi=>(hh i hi).1) (fun i hi=>(hh i hi).2) flows.length (Nat.le_refl _)
 have hpr:(tab caps.length fun k=>cond (caps.getD k 0==0) 1000000000000 (cond (onN flows (k:Int)) (mxN (clA caps flows) flows.length) 0))=prL caps flows (w0L caps.length) (nmS caps flows (qg caps flows (w0L caps.length)) (w0L caps.length)):=by
  refine qm fun k hk=>?_
  unfold prS
  rw [one_on hn,show (w0L caps.length).getD k 0=1024 from qr _ hk]
  have:mxN (clA caps flows) flows.length=Int.tdiv ((nmS caps flows (qg caps flows (w0L caps.length)) (w0L caps.length)).1*1024+(nmS caps flows (qg caps flows (w0L caps.length)) (w0L caps.length)).2 - 1) (nmS caps flows (qg caps flows (w0L caps.length)) (w0L caps.length)).2:=hmx
  rw [this]
 have e64:=l18_64 hn (mxN (clA caps flows) flows.length) (scR caps flows (qg caps flows (w0L caps.length)))
 rw [hpr] at e64
 have hfew:Few caps flows (scR caps flows (qg caps flows (w0L caps.length))) (prL caps flows (w0L caps.length) (nmS caps flows (qg caps flows (w0L caps.length)) (w0L caps.length))):=DY hn hg.rl hg.rli (by unfold prL;rw [qq];omega)
 have hcert:qy caps flows=(scR caps flows (qg caps flows (w0L caps.length)),prL caps flows (w0L caps.length) (nmS caps flows (qg caps flows (w0L caps.length)) (w0L caps.length)),(gn caps flows (scR caps flows (qg caps flows (w0L caps.length))) (prL caps flows (w0L caps.length) (nmS caps flows (qg caps flows (w0L caps.length)) (w0L caps.length)))).1,(gn caps flows (scR caps flows (qg caps flows (w0L caps.length))) (prL caps flows (w0L caps.length) (nmS caps flows (qg caps flows (w0L caps.length)) (w0L caps.length)))).2==0):=by
  unfold qy qx
  rw [hfull];rfl
 unfold v18 tv18;(repeat rewrite [obE])
 rw [Int.toNat_natCast,l18_0 hn hfit,qd (Int.le_refl _),qd (show (caps.length:Int)<=((2147483648:Nat):Int) by omega)]
 simp only [qh,qf,cond_true]
 rw [e32]
 simp only [qh,qf,cond_true]
 rw [e48]
 simp only [qh,qf,cond_true]
 rw [e64]
 simp only [qh,qf,cond_true]
 rw [v38_eq hfew,hcert]
 rfl
end
def gx (caps:List Int) (flows:Fl) (r:Int):List (List Int)×List Int×Int×Int:=
 cond (qw caps flows&&decide (0<=r/\r<=1000)) (cond (Gc caps flows) ((qy caps flows).1,(qy caps flows).2.1,(qy caps flows).2.2.1,0) ([],[],0,4)) ([],[],0,1)
theorem qg8 {caps:List Int} {flows:Fl} {rates:List (List Int)} {prices:List Int} (hf:Few caps flows rates prices) (r:Int):v15 caps flows r=some (gx caps flows r):=by
 unfold v15 tv15 gx;(repeat rewrite [obE])
 rw [qeF hf]
 simp only [qh,qf,cond_true,qE]
 cases hv:qw caps flows with
 | false=>rfl
 | true=>
 rw [cond_true,Bool.true_and]
 by_cases c1:r < 0
 ·rw [qd c1,decide_eq_false (show ¬ (0<=r/\r<=1000) by omega)];rfl
 rw [qe c1]
 by_cases c2:r > 1000
 ·rw [qd c2,decide_eq_false (show ¬ (0<=r/\r<=1000) by omega)];rfl
 rw [qe c2,decide_eq_true (show 0<=r/\r<=1000 by omega),cond_true]
 have hn:=KW hv
 have hfl:=hn.f1
 have e0:jc FU 0 caps flows 0 [] []=some (cond (Gc caps flows) (.inr ()) (.inl (4,0))):=by
  refine qdE (m:=flows.length) (by omega) (fun n i=>jc n i caps flows 0 [] []) ((4,0):Int×Int) (fun i=>decide ((chS caps flows (w0L caps.length) i).1 < 0)) (fun n i hi=>?_) fun n=>?_
  ·show jc (n+1) _ _ _ _ _ _=_
   rw [qaY];unfold Gw;(repeat rewrite [obE]);rw [qd (show (i:Int) < (flows.length:Int) by omega),qeL hn hi,up1 (by omega)]
   rfl
  ·show jc (n+1) _ _ _ _ _ _=_
   rw [qaY];unfold Gw;(repeat rewrite [obE]);rw [qe (show ¬ (flows.length:Int) < (flows.length:Int) by omega)]
 rw [e0]
 cases hfit:Gc caps flows with
 | false=>rfl
 | true=>
  simp only [cond_true,gR,gw,qh,qf,cond_false]
  rw [v18_eq hn (fit_iff.1 hfit)]
  rfl
theorem l11_16 (rates:List (List Int)) (caps:List Int) (flows:Fl) {i:Nat} (hi:i < flows.length) (hf:(flows.getD i []).length<=20) :
  qJ FU rates (i:Int) 0 caps flows=some (cond ((flows.getD i []).all fun l=>decide (l.length<=20)) (.inr ()) (.inl false)):=by
 rw [<- qD (flows.getD i []) [] fun l=>decide (l.length<=20)]
 refine qC (m:=(flows.getD i []).length) (by omega) (fun n j=>qJ n rates (i:Int) j caps flows) _ (fun n j hj=>?_) fun n=>?_
 ·show qJ (n+1) _ _ _ _ _=_
  rw [D0];unfold Ja ck;rw [decide_eq_true (show (0:Int)<=(i:Int) by omega),decide_eq_true (show (i:Int) < (flows.length:Int) by omega)]
  simp only [cond_true,Int.toNat_natCast]
  rw [decide_eq_true (show (j:Int) < ((flows.getD i []).length:Int) by omega),decide_eq_true (show (0:Int)<=(j:Int) by omega),up1 (by omega),dgt]
  simp only [cond_true,qE]
 ·show qJ (n+1) _ _ _ _ _=_
  rw [D0];unfold Ja ck;rw [decide_eq_true (show (0:Int)<=(i:Int) by omega),decide_eq_true (show (i:Int) < (flows.length:Int) by omega)]
  simp only [cond_true,Int.toNat_natCast]
  rw [decide_eq_false (show ¬ ((flows.getD i []).length:Int) < ((flows.getD i []).length:Int) by omega)]
  rfl
theorem l11_0 (rates:List (List Int)) (caps:List Int) (flows:Fl) (hl:flows.length<=20):jC FU rates 0 caps flows=some (cond (fewF flows) (.inr ()) (.inl false)):=by
 unfold fewF
 rw [<- qD flows [] fun f=>cond (decide (f.length<=20)) (f.all fun l=>decide (l.length<=20)) false]
 refine qC (m:=flows.length) (by omega) (fun n j=>jC n rates j caps flows) _ (fun n i hi=>?_) fun n=>?_
 ·show jC (n+1) _ _ _ _=_
  rw [qaU];unfold JY;(repeat rewrite [obE]);rw [decide_eq_true (show (i:Int) < (flows.length:Int) by omega),decide_eq_true (show (0:Int)<=(i:Int) by omega),up1 (by omega),dgt]
  simp only [cond_true,Int.toNat_natCast,qE]
  by_cases h:(flows.getD i []).length<=20
  ·rw [decide_eq_true h,l11_16 rates caps flows hi h]
   simp only [cond_true]
   cases (flows.getD i []).all fun l=>decide (l.length<=20)<;>rfl
  ·rw [decide_eq_false h];rfl
 ·show jC (n+1) _ _ _ _=_
  rw [qaU];unfold JY;(repeat rewrite [obE]);rw [decide_eq_false (show ¬ (flows.length:Int) < (flows.length:Int) by omega)]
  rfl
theorem l11_32 (rates:List (List Int)) (hl:rates.length<=20):qV FU rates 0=some (cond (rates.all fun l=>decide (l.length<=20)) (.inr ()) (.inl false)):=by
 rw [<- qD rates [] fun l=>decide (l.length<=20)]
 refine qC (m:=rates.length) (by omega) (fun n j=>qV n rates j) _ (fun n i hi=>?_) fun n=>?_
 ·show qV (n+1) _ _=_
  rw [D1];unfold Jb;rw [decide_eq_true (show (i:Int) < (rates.length:Int) by omega),decide_eq_true (show (0:Int)<=(i:Int) by omega),up1 (by omega),dgt]
  simp only [cond_true,Int.toNat_natCast,qE]
 ·show qV (n+1) _ _=_
  rw [D1];unfold Jb;rw [decide_eq_false (show ¬ (rates.length:Int) < (rates.length:Int) by omega)]
  rfl
theorem v11_eq (caps:List Int) (flows:Fl) (rates:List (List Int)) (prices:List Int):v11 caps flows rates prices=some (fewS caps flows rates prices):=by
 unfold v11 tv11 fewS;(repeat rewrite [obE])
 simp only [dgt,qE]
 by_cases h1:caps.length<=20
 case neg=>rw [decide_eq_false h1];rfl
 by_cases h2:flows.length<=20
 case neg=>rw [decide_eq_true h1,decide_eq_false h2];rfl
 by_cases h3:rates.length<=20
 case neg=>rw [decide_eq_true h1,decide_eq_true h2,decide_eq_false h3];rfl
 by_cases h4:prices.length<=20
 case neg=>rw [decide_eq_true h1,decide_eq_true h2,decide_eq_true h3,decide_eq_false h4];rfl
 rw [decide_eq_true h1,decide_eq_true h2,decide_eq_true h3,decide_eq_true h4,l11_0 rates caps flows h2,l11_32 rates h3]
 simp only [cond_true,Bool.true_and]
 cases fewF flows with
 | false=>rfl
 | true=>cases rates.all fun l=>decide (l.length<=20)<;>rfl
theorem qie {caps:List Int} {flows:Fl} {r:Int} (hf:Few caps flows [] []) (hv:qw caps flows=true) (hfit:Gc caps flows=true) (hr:0<=r/\r<=1000) :
  v14 caps flows r=some ((gp caps flows r).1,(gp caps flows r).2.1,(gp caps flows r).2.2,0)/\jN caps flows (gp caps flows r)/\Few caps flows (gp caps flows r).1 (gp caps flows r).2.1:=by
 have hn:=KW hv
 have hc:=hn.c1
 have hR:=qcs hn (fit_iff.1 hfit) hv r.toNat
 refine ⟨?_,hR,?_⟩
 ·rw [qeD hf]
  unfold JX
  rw [hv,hfit,decide_eq_true hr];rfl
 ·obtain ⟨_,h2,h3,_⟩:=qdG hR
  unfold ja at h2
  unfold qN at h3
  rw [Bool.and_eq_true] at h2 h3
  have hl:=of_decide_eq_true h2.1
  refine DY hn hl (fun i hi=>?_) (by
   have:=of_decide_eq_true h3.1
   show (stN caps flows (r.toNat+1)).2.2.2.2.1.length<=20
   omega)
  have:=List.all_eq_true.1 h2.2 i (List.mem_range.2 (by rw [hl];exact hi))
  by_cases c:((stN caps flows (r.toNat+1)).2.2.2.1.getD i []).length=(flows.getD i []).length
  ·exact c
  ·rw [decide_eq_false c] at this;cases this
def btF (f:List (List Int)) (l:List Int) (j:Nat) (s:Int×Int):Int×Int:=
 cond (decide (s.2 < 0)) ((j:Int),qj (f.getD j []) l) (cond (decide (qj (f.getD j []) l < s.2)) ((j:Int),qj (f.getD j []) l) s)
def btN (f:List (List Int)) (l:List Int):Nat->Int×Int
 | 0=>(0,-1)
 | j+1=>btF f l j (btN f l j)
theorem HX {f:List (List Int)} {l:List Int} (h0:∀ j,0<=qj (f.getD j []) l):∀ j,∃ b:Nat,b < j+1/\btN f l (j+1)=((b:Int),qj (f.getD b []) l)/\(∀ t,t < j+1->qj (f.getD b []) l<=qj (f.getD t []) l)/\∀ t,t < b->qj (f.getD b []) l < qj (f.getD t []) l
 | 0=>by
  refine ⟨0,by omega,rfl,fun t ht=>?_,fun t ht=>by omega⟩
  have:t=0:=by omega
  rw [this];exact Int.le_refl _
 | j+1=>by
  obtain ⟨b,h1,h2,h3,h4⟩:=HX h0 j
  have hb:=h0 b
  show ∃ b:Nat,b < j+1+1/\btF f l (j+1) (btN f l (j+1))=_/\_
  unfold btF
  rw [h2,qe (show ¬ qj (f.getD b []) l < 0 by omega)]
  by_cases c:qj (f.getD (j+1) []) l < qj (f.getD b []) l
  ·rw [qd c]
   refine ⟨j+1,by omega,rfl,fun t ht=>?_,fun t ht=>?_⟩
   ·by_cases e:t=j+1
    ·rw [e];exact Int.le_refl _
    ·have:=h3 t (by omega);omega
   ·have:=h3 t (by omega);omega
  ·rw [qe c]
   refine ⟨b,by omega,rfl,fun t ht=>?_,h4⟩
   by_cases e:t=j+1
   ·rw [e];omega
   ·exact h3 t (by omega)
def askB (caps:List Int) (flows:Fl) (l:List Int) (flow:Int):Bool:=qw caps flows&&(decide (l.length=caps.length)&&(decide (0<=flow/\flow < (flows.length:Int))&&upto 1000000000000 l))
def qd4 (caps:List Int) (flows:Fl) (l:List Int) (flow:Int):Int×Int×Int:=
 cond (askB caps flows l flow) ((btN (flows.getD flow.toNat []) l (flows.getD flow.toNat []).length).1,(btN (flows.getD flow.toNat []) l (flows.getD flow.toNat []).length).2,0) (0,0,1)
theorem v12_eq {caps:List Int} {flows:Fl} {rates:List (List Int)} {l:List Int} (hf:Few caps flows rates l) (flow:Int):v12 caps flows l flow=some (qd4 caps flows l flow):=by
 have hp:=hf.hp
 unfold v12 tv12 qd4 askB ck;(repeat rewrite [obE])
 rw [qeG hf,JP]
 simp only [qh,qf,cond_true,qE]
 cases hv:qw caps flows with
 | false=>rfl
 | true=>
 rw [cond_true,Bool.true_and]
 by_cases c1:l.length=caps.length
 case neg=>rw [decide_eq_false c1];rfl
 rw [decide_eq_true c1,cond_true,Bool.true_and]
 by_cases c2:flow < 0
 ·rw [qd c2,decide_eq_false (show ¬ (0<=flow/\flow < (flows.length:Int)) by omega)];rfl
 rw [qe c2]
 by_cases c3:flow≥(flows.length:Int)
 ·rw [qd c3,decide_eq_false (show ¬ (0<=flow/\flow < (flows.length:Int)) by omega)];rfl
 rw [qe c3,decide_eq_true (show 0<=flow/\flow < (flows.length:Int) by omega),Bool.true_and]
 have hn:=KW hv
 obtain ⟨i,rfl⟩:∃ i:Nat,flow=(i:Int):=⟨flow.toNat,by omega⟩
 have hi:i < flows.length:=by omega
 have h0:jD FU l (i:Int) l (l.length:Int) 0 caps flows=some (cond (upto 1000000000000 l) (.inr ()) (.inl (0,0,1))):=by
  have key:∀ k n j,j+k=l.length->k < n->jD n l (i:Int) l (l.length:Int) (j:Int) caps flows=some (cond (upto 1000000000000 (l.drop j)) (.inr ()) (.inl (0,0,1))):=by
   intro k
   induction k with
   | zero=>
    intro n j h1 h2
    cases n with
    | zero=>omega
    | succ n=>rw [qaV];unfold Gu ck;rw [qe (show ¬ (j:Int) < (l.length:Int) by omega),List.drop_of_length_le (by omega)];rfl
   | succ k ih=>
    intro n j h1 h2
    cases n with
    | zero=>omega
    | succ n=>
     rw [qaV];unfold Gu ck;rw [qd (show (j:Int) < (l.length:Int) by omega),qd (show (0:Int)<=(j:Int) by omega),qd (show (j:Int) < (l.length:Int) by omega),up1 (by omega),Int.toNat_natCast,ih n (j+1) (by omega) (by omega),Ku (i:=j) (by omega) 0]
     unfold upto
     rw [List.all_cons]
     by_cases d1:l.getD j 0 < 0
     ·rw [qd d1,decide_eq_false (show ¬ (0<=l.getD j 0/\l.getD j 0<=1000000000000) by omega)];rfl
     rw [qe d1]
     by_cases d2:l.getD j 0 > 1000000000000
     ·rw [qd d2,decide_eq_false (show ¬ (0<=l.getD j 0/\l.getD j 0<=1000000000000) by omega)];rfl
     rw [qe d2,decide_eq_true (show 0<=l.getD j 0/\l.getD j 0<=1000000000000 by omega),Bool.true_and]
  have:=key l.length FU 0 (by omega) (by unfold FU;omega)
  rwa [List.drop_zero] at this
 rw [h0]
 cases hu:upto 1000000000000 l with
 | false=>rfl
 | true=>
 have hub:=fun k=>GU (m:=1000000000000) (by omega) hu k
 have h4:=hn.sub i hi
 have h16:ji FU l 0 (-1) (flows.getD i []) ((flows.getD i []).length:Int) 0=some (btN (flows.getD i []) l (flows.getD i []).length):=by
  refine qp (m:=(flows.getD i []).length) (by omega) (fun n j (s:Int×Int)=>ji n l s.1 s.2 (flows.getD i []) ((flows.getD i []).length:Int) j) (btN (flows.getD i []) l) _ (fun n j hj=>?_) fun n=>?_
  ·show ji (n+1) _ _ _ _ _ _=ji n _ (btF (flows.getD i []) l j (btN (flows.getD i []) l j)).1 (btF (flows.getD i []) l j (btN (flows.getD i []) l j)).2 _ _ _
   have hp:=hn.hop i j hi hj
   have e1:=qeH (l:=(flows.getD i []).getD j []) (w:=l) (show (pth flows i j).length<=20 by omega) (fun x hx=>by rw [c1];exact hn.link i j x hi hj hx) hub
   rw [D2];unfold gS ck;(repeat rewrite [obE]);rw [qd (show (j:Int) < ((flows.getD i []).length:Int) by omega),qd (show (0:Int)<=(j:Int) by omega),qd (show (j:Int) < ((flows.getD i []).length:Int) by omega),up1 (by omega)]
   simp only [Int.toNat_natCast,e1,qh,qf,cond_true]
   unfold btF
   cases decide ((btN (flows.getD i []) l j).2 < 0) with
   | true=>rfl
   | false=>
    simp only [cond_false]
    by_cases c:qj ((flows.getD i []).getD j []) l < (btN (flows.getD i []) l j).2
    ·rw [qd c,qd c]
    ·rw [qe c,qe c]
  ·show ji (n+1) _ _ _ _ _ _=_
   rw [D2];unfold gS ck;(repeat rewrite [obE]);rw [qe (show ¬ ((flows.getD i []).length:Int) < ((flows.getD i []).length:Int) by omega)]
 simp only [cond_true,gR,gw,qh,cond_false]
 rw [qd (show (0:Int)<=(i:Int) by omega),qd (show (i:Int) < (flows.length:Int) by omega),Int.toNat_natCast,h16]
 rfl
theorem qeM {l:List Int} (hl:l.length<=20):v36 l l=some true:=by
 have h0:jf FU l l 0=some (.inr ()):=by
  refine qp (m:=l.length) (by omega) (fun n j (s:Unit)=>jf n l l j) (fun j=>()) _ (fun n i h=>?_) (fun n=>?_)
  ·show jf (n+1) _ _ _=jf n _ _ _
   rw [qbh];unfold Kg ck;rw [qd (show (i:Int) < (l.length:Int) by omega),qd (show (0:Int)<=(i:Int) by omega),qd (show (i:Int) < (l.length:Int) by omega),up1 (by omega),Int.toNat_natCast,show (l.getD i 0 != l.getD i 0)=false from by simp]
   rfl
  ·show jf (n+1) _ _ _=_
   rw [qbh];unfold Kg ck;rw [qe (show ¬ (l.length:Int) < (l.length:Int) by omega)]
 unfold v36 tv36;(repeat rewrite [obE])
 rw [h0,show ((l.length:Int) != (l.length:Int))=false from by simp]
 rfl
theorem qeE {r:List (List Int)} {p:List Int} (g:Int) (hr:r.length<=20) (hi:∀ i,(r.getD i []).length<=20) (hp:p.length<=20):v16 r p g r p g=some true:=by
 have h0:jd FU 0 r p g r p g=some (.inr ()):=by
  refine qp (m:=r.length) (by omega) (fun n j (s:Unit)=>jd n j r p g r p g) (fun j=>()) _ (fun n i h=>?_) (fun n=>?_)
  ·show jd (n+1) _ _ _ _ _ _ _=jd n _ _ _ _ _ _ _
   rw [qaZ];unfold J5 ck;(repeat rewrite [obE]);rw [qd (show (i:Int) < (r.length:Int) by omega),qd (show (0:Int)<=(i:Int) by omega),qd (show (i:Int) < (r.length:Int) by omega),up1 (by omega),Int.toNat_natCast,qeM (hi i)]
   rfl
  ·show jd (n+1) _ _ _ _ _ _ _=_
   rw [qaZ];unfold J5 ck;(repeat rewrite [obE]);rw [qe (show ¬ (r.length:Int) < (r.length:Int) by omega)]
 unfold v16 tv16;(repeat rewrite [obE])
 rw [h0,qeM hp,show ((r.length:Int) != (r.length:Int))=false from by simp,show (g != g)=false from by simp]
 rfl
theorem v13_eq {caps:List Int} {flows:Fl} {rates:List (List Int)} {l:List Int} (hf:Few caps flows rates l) (flow:Int):v13 caps flows l flow=some (qd4 caps flows l flow):=by
 unfold v13 tv13 qd4 askB ck;(repeat rewrite [obE])
 rw [qeF hf,qhb hf]
 simp only [qh,qf,cond_true,qE]
 cases hv:qw caps flows with
 | false=>rfl
 | true=>
 rw [cond_true,Bool.true_and]
 by_cases c2:flow < 0
 ·rw [qd c2,decide_eq_false (show ¬ (0<=flow/\flow < (flows.length:Int)) by omega),Bool.false_and,Bool.and_false];rfl
 rw [qe c2]
 by_cases c3:flow≥(flows.length:Int)
 ·rw [qd c3,decide_eq_false (show ¬ (0<=flow/\flow < (flows.length:Int)) by omega),Bool.false_and,Bool.and_false];rfl
 rw [qe c3,decide_eq_true (show 0<=flow/\flow < (flows.length:Int) by omega),Bool.true_and]
 unfold qN
 cases hp:decide (l.length=caps.length)&&upto 1000000000000 l with
 | false=>rfl
 | true=>
 rw [cond_true,cond_true]
 have hn:=KW hv
 obtain ⟨i,rfl⟩:∃ i:Nat,flow=(i:Int):=⟨flow.toNat,by omega⟩
 have hi:i < flows.length:=by omega
 have hsub:=hn.sub i hi
 rw [Bool.and_eq_true] at hp
 have hl:=of_decide_eq_true hp.1
 have hok:Ok caps flows (rtT flows fun _ _=>0) l:=⟨DY hn (HO _ _) (fun i hi=>by rw [JR _ hi,qq]) hf.hp,hn.c1,hn.f1,hn.cap,hn.sub,hn.hop,hn.link,hn.inc,HO _ _,fun i hi=>by rw [JR _ hi,qq],fun i t=>by
  by_cases c:i < flows.length/\t < (flows.getD i []).length
  ·rw [show rt (rtT flows fun _ _=>0) i t=0 from qF _ c.1 c.2];omega
  ·rw [show rt (rtT flows fun _ _=>0) i t=0 from qeT _ c];omega,hl,fun k=>GU (by omega) hp.2 k⟩
 have e23:∀ t,t < (flows.getD i []).length->v23 ((flows.getD i []).getD t []) l=some (qj ((flows.getD i []).getD t []) l):=fun t ht=>qg9 hok hi ht
 have key:∀ k n j,j+1+k=(flows.getD i []).length->k < n->Gm n l (i:Int) (btN (flows.getD i []) l (j+1)).1 ((j+1:Nat):Int) caps flows=some (btN (flows.getD i []) l (flows.getD i []).length).1:=by
  intro k
  induction k with
  | zero=>
   intro n j h1 h2
   cases n with
   | zero=>omega
   | succ n=>
    rw [qaW];unfold JZ ck;(repeat rewrite [obE]);rw [qd (show (0:Int)<=(i:Int) by omega),qd (show (i:Int) < (flows.length:Int) by omega)]
    simp only [Int.toNat_natCast]
    rw [qe (show ¬ ((j+1:Nat):Int) < ((flows.getD i []).length:Int) by omega),show j+1=(flows.getD i []).length by omega]
  | succ k ih=>
   intro n j h1 h2
   cases n with
   | zero=>omega
   | succ n=>
    obtain ⟨b,hb1,hb2,_,_⟩:=HX (f:=flows.getD i []) (l:=l) (fun t=>(G8 hok (i:=i) (t:=t)).1) j
    have hb0:=(G8 hok (i:=i) (t:=b)).1
    have hb0':0<=qj ((flows.getD i []).getD b []) l:=hb0
    have eb:=e23 b (by omega)
    have ej:=e23 (j+1) (by omega)
    have hnx:=ih n (j+1) (by omega) (by omega)
    have hst:btN (flows.getD i []) l (j+1+1)=cond (decide (qj ((flows.getD i []).getD (j+1) []) l < qj ((flows.getD i []).getD b []) l)) (((j+1:Nat):Int),qj ((flows.getD i []).getD (j+1) []) l) ((b:Int),qj ((flows.getD i []).getD b []) l):=by
     show btF (flows.getD i []) l (j+1) (btN (flows.getD i []) l (j+1))=_
     unfold btF
     rw [hb2]
     simp only
     rw [qe (show ¬ qj ((flows.getD i []).getD b []) l < 0 by omega)]
    rw [hst] at hnx
    rw [hb2,qaW];unfold JZ ck;(repeat rewrite [obE]);rw [qd (show (0:Int)<=(i:Int) by omega),qd (show (i:Int) < (flows.length:Int) by omega)]
    simp only [Int.toNat_natCast]
    rw [qd (show ((j+1:Nat):Int) < ((flows.getD i []).length:Int) by omega),qd (show (0:Int)<=((j+1:Nat):Int) by omega),up1 (by omega)]
    simp only [ej,eb,qh,qf,cond_true]
    rw [qd (show (0:Int)<=(b:Int) by omega),qd (show (b:Int) < ((flows.getD i []).length:Int) by omega)]
    by_cases c:qj ((flows.getD i []).getD (j+1) []) l < qj ((flows.getD i []).getD b []) l
    ·rw [qd c] at hnx
     exact (qd c _ _).trans hnx
    ·rw [qe c] at hnx
     exact (qe c _ _).trans hnx
 have hk:=key ((flows.getD i []).length - 1) FU 0 (by omega) (by unfold FU;omega)
 have h0:Gm FU l (i:Int) 0 1 caps flows=some (btN (flows.getD i []) l (flows.getD i []).length).1:=hk
 obtain ⟨b,hb1,hb2,_,_⟩:=HX (f:=flows.getD i []) (l:=l) (fun t=>(G8 hok (i:=i) (t:=t)).1) ((flows.getD i []).length - 1)
 rw [show (flows.getD i []).length - 1+1=(flows.getD i []).length by omega] at hb1 hb2
 rw [hb2] at h0
 rw [Int.toNat_natCast,hb2]
 have eb:=e23 b hb1
 simp only [h0,qh,qf,cond_true,Int.toNat_natCast]
 rw [qd (show (0:Int)<=(i:Int) by omega),qd (show (i:Int) < (flows.length:Int) by omega),qd (show (0:Int)<=(b:Int) by omega),qd (show (b:Int) < ((flows.getD i []).length:Int) by omega),eb]
 rfl
theorem v3_true (caps:List Int) (flows:Fl) (l:List Int) (flow r:Int):v3 caps flows l flow r=some true:=by
 have hv:v10=some true:=rfl
 unfold v3 tv3;(repeat rewrite [obE])
 rw [v11_eq,hv]
 simp only [qh,qf,cond_true,qE]
 cases hx:fewS caps flows [] l with
 | false=>rfl
 | true=>
 rw [cond_true]
 have hf:=few_iff hx
 have hE:(JX caps flows r).2.2.2=(gx caps flows r).2.2.2:=by
  unfold JX gx
  cases qw caps flows&&decide (0<=r/\r<=1000) with
  | false=>rfl
  | true=>cases Gc caps flows<;>rfl
 have h0:JX caps flows 0=gx caps flows 0:=by
  unfold JX gx
  rw [decide_eq_true (show (0:Int)<=0/\(0:Int)<=1000 by omega)]
  cases hval:qw caps flows with
  | false=>rfl
  | true=>
   cases hfit:Gc caps flows with
   | false=>rfl
   | true=>
    have hb:gp caps flows 0=((qy caps flows).1,(qy caps flows).2.1,(qy caps flows).2.2.1):=qcJ (KW hval) (fit_iff.1 hfit) hval
    rw [hb]
 have hs:v16 (gx caps flows 0).1 (gx caps flows 0).2.1 (gx caps flows 0).2.2.1 (gx caps flows 0).1 (gx caps flows 0).2.1 (gx caps flows 0).2.2.1=some true:=by
  cases hval:qw caps flows&&Gc caps flows with
  | true=>
   rw [Bool.and_eq_true] at hval
   obtain ⟨_,_,hF⟩:=qie (r:=0) ⟨hf.hc,hf.hf,by simp,by simp,hf.flow,hf.path,fun i=>by simp⟩ hval.1 hval.2 (by omega)
   have hb:gp caps flows 0=((qy caps flows).1,(qy caps flows).2.1,(qy caps flows).2.2.1):=qcJ (KW hval.1) (fit_iff.1 hval.2) hval.1
   rw [hb] at hF
   have e:gx caps flows 0=((qy caps flows).1,(qy caps flows).2.1,(qy caps flows).2.2.1,0):=by
    unfold gx
    rw [hval.1,hval.2];rfl
   rw [e]
   exact qeE _ hF.hr hF.rate hF.hp
  | false=>
   have e:(gx caps flows 0).1=[]/\(gx caps flows 0).2.1=[]:=by
    unfold gx
    rw [decide_eq_true (show (0:Int)<=0/\(0:Int)<=1000 by omega)]
    cases h1:qw caps flows with
    | false=>exact ⟨rfl,rfl⟩
    | true=>
     rw [h1,Bool.true_and] at hval
     rw [hval]
     exact ⟨rfl,rfl⟩
   rw [e.1,e.2]
   exact qeE _ (by simp) (fun i=>by simp) (by simp)
 have e44:JN l flow r true caps flows=some true:=by
  unfold JN K0;(repeat rewrite [obE])
  rw [v12_eq hf,v13_eq hf,qeD hf,qeD hf,qg8 hf,qg8 hf,h0]
  simp only [qh,qf,cond_true,beq_self_eq_true,hs,hE]
 rw [e44]
 rfl
end Go.Proofs.Ytpfphfobneehmaa
set_option maxRecDepth 100000
namespace Go.Proofs.Ytpfphfobneehmaa
open Go Go.ChangeShapes Go.WideShapes Go.ChangeAt Go.RowKit Go.AM Go.TM
theorem own0:ownKnob Try.prog.godebug=none:=by kernel_rfl
theorem laid0:laidOutB Try.prog=true:=by kernel_rfl
abbrev taus:List Ty:=[.pair (.list 3 (.int .i64)) (.list 31 (.list 22 (.list 3 (.int .i64)))),.list 3 (.int .i64),.int .i64,.int .i64]
theorem args0 (x:((List Int)×(List (List (List Int))))×(List Int)×Int×Int×Unit):Ww Try.prog Try.f3.params.toList taus x=[.agg [.d 3 (.int .i64) x.1.1,.d 31 (.list 22 (.list 3 (.int .i64))) x.1.2],.sc (.d 3 (.int .i64) x.2.1),.sc (.int .i64 x.2.2.1),.sc (.int .i64 x.2.2.2.1)]:=by
 kernel_rfl
theorem law_run:∀ x:Tup taus,InTup taus x->∃ k H',TM.evF Try.prog S208.n dOk k 3 (Ww Try.prog Try.f3.params.toList taus x) []=some ([.sc (.bool true)],H'):=by
 intro x hx
 have e:=args0 x
 rw [e]
 refine ⟨41,[],(fn_eq (by kernel_rfl)).trans ((ev3 ..).trans (bD ?_))⟩
 exact v3_true _ _ _ _ _
theorem qfe (os:Os) (started:os.Started) (H:Type) (enc:TypeId×Value->H) :
  ReturnsInHanded {} Try.checked os 3 .any (Rows.multiMatchesReferenceSpec.pre6 enc Try.prog Try.f3 Rows.multiMatchesReferenceRow.domain false) (Rows.multiMatchesReferenceSpec.post enc Try.prog Try.f3 false true false false):=
 law_tm (C:=Try.checked) (τs:=taus) (tb:=4) (base:=base) (O:=S208.o) (T:=S208.t) own0 started (by kernel_rfl) Try.func3
  (ChangeSpec.witness6 (enc:=enc) (C:=Try.checked) false ⟨#[],#[.agg #[.slice none 0 0,.slice none 0 0],.slice none 0 0,.int .i64 0,.int .i64 0],[]⟩ 8 (by kernel_rfl) (by kernel_rfl) (by kernel_rfl) (by kernel_rfl))
  laid0 (by kernel_rfl) (by kernel_rfl) rfl (by kernel_rfl) names mixed S208.ok (by kernel_rfl) (by kernel_rfl)
  (fun ds h=>by
   match ds,h with
   | [_,_,_,_],_=>rfl)
  law_run
theorem multiMatchesReference_holds:Rows.MultiMatchesReferenceSaid:=
 OpenClaim.holds_of_wide 3 Try.f3 rfl rfl rfl rfl rfl rfl rfl ⟨rfl,rfl,rfl,rfl,rfl⟩ rfl rfl rfl rfl rfl (by kernel_rfl) Try.func3 (by kernel_rfl)
  (of_decide_eq_true (by kernel_rfl)) (by unfold Func.isWrapper;first | (rw [if_pos (by decide +kernel)];kernel_rfl) | (rw [if_neg (by decide +kernel)];exact ⟨rfl,rfl⟩))
  (fun os started H enc _=>qfe os started H enc)
end Go.Proofs.Ytpfphfobneehmaa
