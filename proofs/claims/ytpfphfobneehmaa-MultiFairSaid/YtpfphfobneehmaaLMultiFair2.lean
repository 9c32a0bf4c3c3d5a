/- MultiFair: it returns true at every input; no conditions. -/
import Derived.Test.YtpfphfobneehmaaLMultiFair1
import Derived.Test.YtpfphfobneehmaaRows
import Derived.ProofKit
set_option linter.all false
namespace Go.Proofs.Ytpfphfobneehmaa
open Go Go.AM Go.TM Go.Proofs
section
variable {caps : List Int} {flows : Fl} {rates : List (List Int)} {prices : List Int} (h : Ok caps flows rates prices)
include h
theorem v23_eq {i t:Nat} (hi:i < flows.length) (ht:t < (flows.getD i []).length):v23 (pth flows i t) prices=some (qm (pth flows i t) prices):=by
 have hl:=(h.hop i t hi ht).2
 have h0:jS FU (pth flows i t) prices 0 0=some (qm (pth flows i t) prices):=by
  refine qq (m:=(pth flows i t).length) (by omega) (fun n j (s:Int)=>jS n (pth flows i t) prices s j)
   (fun j=>qi j fun x=>prices.getD (Int.toNat ((pth flows i t).getD x 0)) 0) (qm (pth flows i t) prices) (fun n j hj=>?_) fun n=>?_
  ·show jS (n+1) _ _ _ _=jS n _ _ _ _
   have hk:=h.link i t j hi ht hj
   have hpl:=h.pl
   have hb:=qaO h (i:=i) (t:=t) (j:=j+1) (by omega)
   have hs:qi (j+1) (fun x=>prices.getD (Int.toNat ((pth flows i t).getD x 0)) 0)=qi j (fun x=>prices.getD (Int.toNat ((pth flows i t).getD x 0)) 0)+prices.getD (Int.toNat ((pth flows i t).getD j 0)) 0:=rfl
   rw [qaX];unfold J7 ck;rw [decide_eq_true (show (j:Int) < ((pth flows i t).length:Int) by omega),decide_eq_true (show (0:Int)<=(j:Int) by omega),up1 (by omega)]
   simp only [cond_true,Int.toNat_natCast]
   rw [decide_eq_true hk.1,decide_eq_true (show (pth flows i t).getD j 0 < (prices.length:Int) by omega),<- hs,qj (by omega) (by omega)]
   rfl
  ·show jS (n+1) _ _ _ _=_
   rw [qaX];unfold J7 ck;rw [decide_eq_false (show ¬ ((pth flows i t).length:Int) < ((pth flows i t).length:Int) by omega)]
   rfl
 unfold v23 tv23;(repeat rewrite [obE])
 rw [h0];rfl
theorem l40_16 {i:Nat} (hi:i < flows.length) (hx:1<=qp (rates.getD i [])) :
  q6 FU rates prices (i:Int) (Int.tdiv (1000000000000+qp (rates.getD i []) - 1) (qp (rates.getD i []))) 0 caps flows=some (cond ((List.range (flows.getD i []).length).all fun t=>decide (1000000000000<=qm (pth flows i t) prices*qp (rates.getD i []))) (.inr ()) (.inl false)):=by
 have h4:=(h.sub i hi).2
 refine qB (m:=(flows.getD i []).length) (by omega) (fun n j=>q6 n rates prices (i:Int) (Int.tdiv (1000000000000+qp (rates.getD i []) - 1) (qp (rates.getD i []))) j caps flows) _ (fun n j hj=>?_) fun n=>?_
 ·show q6 (n+1) _ _ _ _ _ _ _=_
  have hp:=qdE h (i:=i) (t:=j)
  have hc:=KJ (p:=qp (rates.getD i [])) (x:=qm (pth flows i j) prices) (c:=1000000000000) (by omega) hp.1 (by omega)
  rw [Int.mul_comm] at hc
  rw [Si];unfold Jl ck;(repeat rewrite [obE]);rw [Int.toNat_natCast,Int.toNat_natCast,decide_eq_true (show (0:Int)<=(i:Int) by omega),decide_eq_true (show (i:Int) < (flows.length:Int) by omega),decide_eq_true (show (j:Int) < ((flows.getD i []).length:Int) by omega),decide_eq_true (show (0:Int)<=(j:Int) by omega),up1 (by omega),v23_eq h hi hj,qg,qe]
  simp only [cond_true]
  generalize hP:qm (pth flows i j) prices=p at*
  generalize hX:qp (rates.getD i [])=y at*
  by_cases c:p*y < 1000000000000
  ·rw [decide_eq_true (hc.2 c),decide_eq_false (show ¬ 1000000000000<=p*y by omega)];rfl
  ·rw [decide_eq_false (show ¬ _ from fun e=>c (hc.1 e)),decide_eq_true (show 1000000000000<=p*y by omega)];rfl
 ·show q6 (n+1) _ _ _ _ _ _ _=_
  rw [Si];unfold Jl ck;(repeat rewrite [obE]);rw [decide_eq_true (show (0:Int)<=(i:Int) by omega),decide_eq_true (show (i:Int) < (flows.length:Int) by omega)]
  simp only [cond_true,Int.toNat_natCast]
  rw [decide_eq_false (show ¬ ((flows.getD i []).length:Int) < ((flows.getD i []).length:Int) by omega)]
  rfl
theorem v40_eq:v40 caps flows rates prices=some (jO caps flows rates prices):=by
 have hf:=h.few.hf
 have hr:=h.rl
 have h0:jE FU rates prices 0 caps flows=some (cond (gD flows rates prices) (.inr ()) (.inl false)):=by
  unfold gD
  refine qB (m:=flows.length) (by omega) (fun n j=>jE n rates prices j caps flows) _ (fun n i hi=>?_) fun n=>?_
  ·show jE (n+1) _ _ _ _ _=_
   have hx:=JQ h i
   have hl:=h.sub i hi
   have e1:=qez h i
   have e16:=l40_16 h hi
   rw [qbc];unfold GF ck;(repeat rewrite [obE]);rw [Int.toNat_natCast,decide_eq_true (show (i:Int) < (flows.length:Int) by omega),decide_eq_true (show (0:Int)<=(i:Int) by omega),decide_eq_true (show (i:Int) < (rates.length:Int) by omega),up1 (by omega)]
   generalize v21 (rates.getD i [])=o1 at*
   subst e1
   rw [qg,qe]
   simp only [cond_true]
   by_cases c:qp (rates.getD i []) < 1
   ·rw [decide_eq_true c]
    have hz:qp (rates.getD i [])=0:=by omega
    have:((List.range (flows.getD i []).length).all fun t=>decide (1000000000000<=qm (pth flows i t) prices*qp (rates.getD i [])))=false:=by
     rw [Bool.eq_false_iff]
     intro ha
     have:=List.all_eq_true.1 ha 0 (List.mem_range.2 (by omega))
     rw [hz,Int.mul_zero] at this
     simp at this
    rw [this];rfl
   ·have w1:wI (1000000000000+qp (rates.getD i []))=1000000000000+qp (rates.getD i []):=qj (by omega) (by omega)
    have w2:wI (1000000000000+qp (rates.getD i []) - 1)=1000000000000+qp (rates.getD i []) - 1:=qj (by omega) (by omega)
    have hc2:=HJ (p:=qp (rates.getD i [])) (c:=1000000000000) (by omega) (by omega)
    have w3:wI (Int.tdiv (1000000000000+qp (rates.getD i []) - 1) (qp (rates.getD i [])))=Int.tdiv (1000000000000+qp (rates.getD i []) - 1) (qp (rates.getD i [])):=qj (by omega) (by omega)
    rw [decide_eq_false c,decide_eq_true (show qp (rates.getD i [])≠0 by omega)]
    simp only [cond_true,cond_false,w1,w2,w3]
    rw [e16 (by omega)]
    cases (List.range (flows.getD i []).length).all fun t=>decide (1000000000000<=qm (pth flows i t) prices*qp (rates.getD i []))<;>rfl
  ·show jE (n+1) _ _ _ _ _=_
   rw [qbc];unfold GF ck;(repeat rewrite [obE]);rw [decide_eq_false (show ¬ (flows.length:Int) < (flows.length:Int) by omega)]
   rfl
 unfold v40 tv40 jO;(repeat rewrite [obE])
 rw [qg2 h,h0]
 cases qJ caps flows rates with
 | false=>rfl
 | true=>cases gD flows rates prices<;>rfl
theorem v41_eq:v41 caps flows prices=some (qz caps prices):=by
 have hp:=h.few.hp
 have hpl:=h.pl
 have h0:j8 FU prices 0 0 caps flows=some (qz caps prices):=by
  refine qq (m:=prices.length) (by omega) (fun n j (s:Int)=>j8 n prices s j caps flows) (fun j=>qi j fun k=>prices.getD k 0*caps.getD k 0) (qz caps prices) (fun n k hk=>?_) fun n=>?_
  ·show j8 (n+1) _ _ _ _ _=j8 n _ _ _ _ _
   have hb:=Gs h (j:=k+1) (by omega)
   have hb0:=Gs h (j:=k) (by omega)
   have hs:qi (k+1) (fun k=>prices.getD k 0*caps.getD k 0)=qi k (fun k=>prices.getD k 0*caps.getD k 0)+prices.getD k 0*caps.getD k 0:=rfl
   have hm0:0<=prices.getD k 0*caps.getD k 0:=Int.mul_nonneg (h.price k).1 (h.cap k).1
   rw [qbd];unfold Ke ck;rw [decide_eq_true (show (k:Int) < (prices.length:Int) by omega),decide_eq_true (show (0:Int)<=(k:Int) by omega),decide_eq_true (show (k:Int) < (caps.length:Int) by omega),up1 (by omega)]
   simp only [cond_true,Int.toNat_natCast]
   rw [qj (x:=prices.getD k 0*caps.getD k 0) (by omega) (by omega),<- hs,qj (by omega) (by omega)]
  ·show j8 (n+1) _ _ _ _ _=_
   rw [qbd];unfold Ke ck;rw [decide_eq_false (show ¬ (prices.length:Int) < (prices.length:Int) by omega)]
   rfl
 unfold v41 tv41;(repeat rewrite [obE])
 rw [h0];rfl
end
theorem v38_eq {caps:List Int} {flows:Fl} {rates:List (List Int)} {prices:List Int} (hf:Few caps flows rates prices):v38 caps flows rates prices=some (gm caps flows rates prices):=by
 unfold v38 tv38 gm;(repeat rewrite [obE])
 rw [qg3 hf,qg1 hf,v30_eq hf]
 simp only [qg,qe,cond_true,qE]
 cases h1:qC caps flows with
 | false=>rfl
 | true=>
  cases h2:qS flows rates with
  | false=>rfl
  | true=>
   cases h3:qO caps prices with
   | false=>rfl
   | true=>
    have h:=qd3 hf h1 h2 h3
    have hc:=Gs h (j:=prices.length) hf.hp
    have hfl:=hf.hf
    have hc':0<=qz caps prices/\qz caps prices<=20*(1000000000000*1000):=hc
    rw [v40_eq h,v41_eq h]
    simp only [qg,qe,cond_true,Bool.and_self]
    have w1:wI (1000000*(flows.length:Int))=1000000*(flows.length:Int):=qj (by omega) (by omega)
    have w2:wI (qz caps prices - 1000000*(flows.length:Int))=qz caps prices - 1000000*(flows.length:Int):=qj (by omega) (by omega)
    simp only [w1,w2]
    cases jO caps flows rates prices with
    | false=>rfl
    | true=>
     simp only [cond_true]
     generalize max 0 (qz caps prices - 1000000*(flows.length:Int))=g
     by_cases c:g<=1000000000000
     ·rw [decide_eq_true c,decide_eq_false (show ¬ g > 1000000000000 by omega)];rfl
     ·rw [decide_eq_false c,decide_eq_true (show g > 1000000000000 by omega)];rfl
def cq (a d:Int):Int:=Int.tdiv (a+d - 1) d
theorem qcC {a d z:Int} (ha:0<=a) (hd:1<=d):cq a d<=z↔a<=z*d:=by
 unfold cq
 rw [Int.tdiv_eq_ediv_of_nonneg (by omega)]
 constructor
 ·intro h
  have h1:(a+d - 1) / d < z+1:=by omega
  have h2:=(Int.ediv_lt_iff_lt_mul (show 0 < d by omega)).1 h1
  rw [Int.add_mul,Int.one_mul] at h2
  omega
 ·intro h
  have h2:(a+d - 1) / d < z+1:=(Int.ediv_lt_iff_lt_mul (show 0 < d by omega)).2 (by rw [Int.add_mul,Int.one_mul];omega)
  omega
theorem qd7 {a b:Int} (h:∀ z,a<=z↔b<=z):a=b:=Int.le_antisymm ((h b).2 (Int.le_refl _)) ((h a).1 (Int.le_refl _))
theorem cq_two {x h:Int} (hx:1<=x) (hh:1<=h):cq (qu x*1024) (1024*h)=cq 1000000000000 (h*x):=by
 have hn:=(Gt hx).2.1
 have hhx:1<=h*x:=by have:=Int.mul_le_mul hh hx (by omega) (by omega);omega
 refine qd7 fun z=>?_
 rw [qcC (by omega) (by omega),qcC (by omega) hhx]
 have e1:z*(1024*h)=1024*(z*h):=by rw [<- Int.mul_assoc,Int.mul_comm z 1024,Int.mul_assoc]
 have e2:z*(h*x)=z*h*x:=(Int.mul_assoc _ _ _).symm
 have e3:qu x<=z*h↔1000000000000<=z*h*x:=qcC (a:=1000000000000) (d:=x) (z:=z*h) (by omega) hx
 rw [e1,e2,<- e3]
 constructor<;>intro h<;>omega
def mxN (c:Nat->Int):Nat->Int
 | 0=>0
 | i+1=>max (mxN c i) (c i)
theorem mx_nm {x l h:Nat->Int} {m:Nat} (hx:∀ i,i < m->1<=x i) (hh:∀ i,i < m->1<=h i/\h i<=6) (hl:∀ i,i < m->l i=1024*h i):∀ j,j<=m->mxN (fun i=>cq 1000000000000 (h i*x i)) j=cq ((nmN x l j).1*1024) (nmN x l j).2
 | 0,_=>rfl
 | j+1,hj=>by
  have ih:=mx_nm hx hh hl j (by omega)
  have hb:=(qaN (x:=x) (l:=l) (m:=m) hx (fun i hi=>by have:=hl i hi;have:=hh i hi;omega) j (by omega))
  have hxj:=hx j (by omega)
  have hhj:=hh j (by omega)
  have hlj:=hl j (by omega)
  have hn:=(Gt hxj).2.1
  show max (mxN _ j) (cq 1000000000000 (h j*x j))=cq ((nmF (x j) (l j) (nmN x l j)).1*1024) (nmF (x j) (l j) (nmN x l j)).2
  rw [ih,<- cq_two hxj hhj.1]
  unfold nmF
  generalize nmN x l j=s at*
  have key:∀ {a b c d:Int},0<=a->1<=b->0<=c->1<=d->a*d<=c*b->cq (a*1024) b<=cq (c*1024) d:=by
   intro a b c d ha hb hc hd h
   rw [qcC (by omega) hb]
   have h1:=(qcC (a:=c*1024) (d:=d) (z:=cq (c*1024) d) (by omega) hd).1 (Int.le_refl _)
   generalize cq (c*1024) d=z at*
   have h2:c*1024*b<=z*d*b:=Int.mul_le_mul_of_nonneg_right h1 (by omega)
   have h3:a*d*1024<=c*b*1024:=Int.mul_le_mul_of_nonneg_right h (by omega)
   have e1:c*1024*b=c*b*1024:=by rw [Int.mul_assoc,Int.mul_comm 1024,<- Int.mul_assoc]
   have e2:z*d*b=z*b*d:=by rw [Int.mul_assoc,Int.mul_comm d,<- Int.mul_assoc]
   have e3:a*d*1024=a*1024*d:=by rw [Int.mul_assoc,Int.mul_comm d,<- Int.mul_assoc]
   exact Int.le_of_mul_le_mul_right (a:=d) (by omega) (by omega)
  by_cases c:s.1*l j < qu (x j)*s.2
  ·rw [qd c]
   have:=key hb.1.1 hb.2.1.1 (show 0<=qu (x j) by omega) (show 1<=1024*h j by omega) (by rw [<- hlj];omega)
   simp only
   rw [hlj]
   omega
  ·rw [qh c]
   have:=key (show 0<=qu (x j) by omega) (show 1<=1024*h j by omega) hb.1.1 hb.2.1.1 (by rw [<- hlj];omega)
   omega
section
variable {caps : List Int} {flows : Fl} (hn : Nw caps flows) (hfit : Fit caps flows)
include hn hfit
theorem now_sum {i:Nat} (hi:i < flows.length) {b:Nat} (hb:b < (flows.getD i []).length) (hc:(chS caps flows (w0L caps.length) i).1=(b:Int)) (k:Nat) :
  (qi (flows.getD i []).length fun t=>pk (pth flows i t) (rt (qf caps flows (w0L caps.length)) i t) k)=pk (pth flows i b) (ja caps flows (w0L caps.length) i b) k:=by
 obtain ⟨b',hb',_,hc',_,_,_,h0⟩:=Gd hn (gE _) hfit hi
 have e:b'=b:=by omega
 subst e
 rw [gl hb fun t ht hne=>?_]
 ·rw [show rt (qf caps flows (w0L caps.length)) i b'=ja caps flows (w0L caps.length) i b' from qL _ hi hb]
 ·rw [show rt (qf caps flows (w0L caps.length)) i t=ja caps flows (w0L caps.length) i t from qL _ hi ht,h0 t hne]
  rcases gI hn hi ht k with e | ⟨e,_⟩<;>rw [e]
theorem l18_16 {i b:Nat} (hi:i < flows.length) (hb:b < (flows.getD i []).length) {r:Int} (hr:r=1000000000 / ((pth flows i b).length:Int)) (f:Nat->Int) (hf:∀ k,0<=f k/\f k<=100000000000000) :
  qQ FU (i:Int) (pth flows i b) 0 caps flows 0 (tab caps.length f) [] []=some (tab caps.length fun k=>f k+pk (pth flows i b) r k):=by
 have hl:=hn.hop i b hi hb
 have hr1:0<=r/\r<=1000000000:=by
  rw [hr]
  exact ⟨Int.ediv_nonneg (by omega) (by omega),Int.ediv_le_self _ (by omega)⟩
 have hrd:Int.tdiv 1000000000 ((pth flows i b).length:Int)=r:=by rw [hr];exact Int.tdiv_eq_ediv_of_nonneg (by omega)
 have:=qq (m:=(pth flows i b).length) (by omega) (fun n j (s:List Int)=>qQ n (i:Int) (pth flows i b) j caps flows 0 s [] [])
  (fun j=>tab caps.length fun k=>f k+qi j fun t'=>cond ((pth flows i b).getD t' 0==(k:Int)) r 0) (tab caps.length fun k=>f k+pk (pth flows i b) r k) (fun n j hj=>?_) fun n=>?_
 ·simp only [qi,Int.add_zero] at this
  exact this
 ·show qQ (n+1) _ _ _ _ _ _ _ _ _=qQ n _ _ _ _ _ _ _ _ _
  have hk:=hn.link i b j hi hb hj
  obtain ⟨p,hp⟩:∃ p:Nat,(pth flows i b).getD j 0=(p:Int):=⟨Int.toNat ((pth flows i b).getD j 0),by omega⟩
  have hpc:p < caps.length:=by omega
  rw [D0];unfold Ja ck;rw [qd (show (j:Int) < ((pth flows i b).length:Int) by omega),qd (show (0:Int)<=(j:Int) by omega),up1 (by omega)]
  simp only [Int.toNat_natCast,hp,qr,hrd]
  rw [qd (show (0:Int)<=(p:Int) by omega),qd (show (p:Int) < (caps.length:Int) by omega),qd hpc,qd (show ((pth flows i b).length:Int)≠0 by omega),qt _ hpc,qV,qj (x:=r) (by omega) (by omega)]
  congr 1
  apply qn
  intro k hkc
  have hbd:=qy (n:=j) (m:=6) (f:=fun t'=>cond ((pth flows i b).getD t' 0==(p:Int)) r 0) (c:=1000000000) (by omega) (fun t' _=>by
   cases ((pth flows i b).getD t' 0==(p:Int)) with
   | true=>exact hr1
   | false=>exact ⟨Int.le_refl _,by show (0:Int)<=_;omega⟩) (by omega)
  have hfp:=hf p
  rw [qdf,hp]
  by_cases hkp:k=p
  ·subst hkp
   rw [if_pos rfl,qj (by omega) (by omega),beq_self_eq_true,cond_true]
   omega
  ·rw [if_neg hkp,show ((p:Int)==(k:Int))=false from beq_false_of_ne (by omega),cond_false,Int.add_zero]
 ·show qQ (n+1) _ _ _ _ _ _ _ _ _=_
  rw [D0];unfold Ja ck;rw [qh (show ¬ ((pth flows i b).length:Int) < ((pth flows i b).length:Int) by omega)]
  rfl
theorem l18_0:jQ FU 0 caps flows 0 (List.replicate caps.length 0) [] []=some (ldL caps flows (qf caps flows (w0L caps.length))):=by
 have hfl:=hn.f1
 have hnow:=Ge hn (gE caps.length) hfit
 have e1:List.replicate caps.length (0:Int)=Ld caps flows (qf caps flows (w0L caps.length)) 0 0:=qF _
 have e3:Ld caps flows (qf caps flows (w0L caps.length)) flows.length 0=ldL caps flows (qf caps flows (w0L caps.length)):=qn fun k _=>Int.add_zero _
 rw [e1,<- e3]
 refine qq (m:=flows.length) (by omega) (fun n j (s:List Int)=>jQ n j caps flows 0 s [] []) (fun j=>Ld caps flows (qf caps flows (w0L caps.length)) j 0) _ (fun n i hi=>?_) fun n=>?_
 ·show jQ (n+1) _ _ _ _ _ _ _=jQ n _ _ _ _ _ _ _
  obtain ⟨b,h,hb,_,hc,hh,hh2,_,he,hv⟩:=gQ hn hfit hi
  have e35:v35 caps flows (i:Int)=some (b:Int):=by rw [qeD hn hi,hc]
  have e16:=l18_16 hn hfit hi hb (r:=ja caps flows (w0L caps.length) i b) (by rw [he,hh]) (fun k=>(qi i fun q=>qi (flows.getD q []).length fun t=>pk (pth flows q t) (rt (qf caps flows (w0L caps.length)) q t) k)+0) (fun k=>by
   have:=qeJ hn (by omega) hnow (Nat.le_of_lt hi) k
   omega)
  have e2:(tab caps.length fun k=>(qi i fun q=>qi (flows.getD q []).length fun t=>pk (pth flows q t) (rt (qf caps flows (w0L caps.length)) q t) k)+0+pk (pth flows i b) (ja caps flows (w0L caps.length) i b) k)=Ld caps flows (qf caps flows (w0L caps.length)) (i+1) 0:=qn fun k hk=>by
   simp only [qi]
   rw [now_sum hn hfit hi hb hc];omega
  rw [qaT];unfold JY ck;(repeat rewrite [obE]);rw [qd (show (i:Int) < (flows.length:Int) by omega),qd (show (0:Int)<=(i:Int) by omega),up1 (by omega)]
  simp only [e35,Int.toNat_natCast,qg,qe,cond_true]
  rw [qd (show (0:Int)<=(b:Int) by omega),qd (show (b:Int) < ((flows.getD i []).length:Int) by omega),show Ld caps flows (qf caps flows (w0L caps.length)) i 0=tab caps.length _ from rfl]
  have e16':qQ FU (i:Int) ((flows.getD i []).getD b []) 0 caps flows 0 (tab caps.length fun k=>(qi i fun q=>qi (flows.getD q []).length fun t=>pk (pth flows q t) (rt (qf caps flows (w0L caps.length)) q t) k)+qi 0 fun t=>pk (pth flows i t) (rt (qf caps flows (w0L caps.length)) i t) k) [] []=some (Ld caps flows (qf caps flows (w0L caps.length)) (i+1) 0):=by
   rw [<- e2];exact e16
  rw [e16']
  rfl
 ·show jQ (n+1) _ _ _ _ _ _ _=_
  rw [qaT];unfold JY ck;(repeat rewrite [obE]);rw [qh (show ¬ (flows.length:Int) < (flows.length:Int) by omega)]
theorem l18_32 {ld:List Int} (hl:ld.length=caps.length) (hb:∀ k,0<=ld.getD k 0/\ld.getD k 0<=3000000000000000):jg FU (-1) 0 caps flows 0 ld [] []=some (tgN caps ld caps.length):=by
 have hc:=hn.c1
 refine qq (m:=caps.length) (by omega) (fun n j (s:Int)=>jg n s j caps flows 0 ld [] []) (tgN caps ld) (tgN caps ld caps.length) (fun n k hk=>?_) fun n=>?_
 ·show jg (n+1) _ _ _ _ _ _ _ _=jg n (tgF caps ld k (tgN caps ld k)) _ _ _ _ _ _ _
  have hs:=KX caps ld k
  rw [D1];unfold Jb ck;rw [qd (show (k:Int) < (ld.length:Int) by omega),qd (show (0:Int)<=(k:Int) by omega),up1 (by omega)]
  simp only [Int.toNat_natCast]
  rw [qd (show k < ld.length by omega)]
  unfold tgF
  by_cases c:ld.getD k 0 > 0
  ·rw [qd c,qd c]
   rcases hs with ⟨h1,_⟩ | ⟨b,h1,h2,_,_⟩
   ·rw [h1,qd (show (-1:Int) < 0 by omega),qd (show (-1:Int) < 0 by omega)]
   ·have hb1:=hb k
    have hb2:=hb b
    have hc1:=hn.cap k
    have hc2:=hn.cap b
    have p1:=Int.mul_le_mul hc1.2 hb2.2 hb2.1 (by omega)
    have p2:=Int.mul_le_mul hc2.2 hb1.2 hb1.1 (by omega)
    have p3:=Int.mul_nonneg hc1.1 hb2.1
    have p4:=Int.mul_nonneg hc2.1 hb1.1
    rw [h2,qh (show ¬ (b:Int) < 0 by omega),qh (show ¬ (b:Int) < 0 by omega),qd (show (k:Int) < (caps.length:Int) by omega),qd (show (0:Int)<=(b:Int) by omega),qd (show (b:Int) < (ld.length:Int) by omega),Int.toNat_natCast,qd (show b < ld.length by omega),qd (show (b:Int) < (caps.length:Int) by omega)]
    have w1:wI (caps.getD k 0*ld.getD b 0)=caps.getD k 0*ld.getD b 0:=qj (by omega) (by omega)
    have w2:wI (caps.getD b 0*ld.getD k 0)=caps.getD b 0*ld.getD k 0:=qj (by omega) (by omega)
    simp only [w1,w2]
    cases decide (caps.getD k 0*ld.getD b 0 < caps.getD b 0*ld.getD k 0)<;>rfl
  ·rw [qh c,qh c]
 ·show jg (n+1) _ _ _ _ _ _ _ _=_
  rw [D1];unfold Jb ck;rw [qh (show ¬ (caps.length:Int) < (ld.length:Int) by omega)]
def KQ (caps:List Int) (flows:Fl) (i:Nat):Int:=qs caps flows (w0L caps.length) i / 1024
def clA (caps:List Int) (flows:Fl) (i:Nat):Int:=cq 1000000000000 (KQ caps flows i*qo caps flows (qf caps flows (w0L caps.length)) i)
theorem l18_48:jh FU (tgS caps flows (qf caps flows (w0L caps.length)):Int) 0 0 caps flows 0 0 (ldL caps flows (qf caps flows (w0L caps.length))) [] [] [] []=some (mxN (clA caps flows) flows.length,scR caps flows (qf caps flows (w0L caps.length))):=by
 have hfl:=hn.f1
 have hnow:=Ge hn (gE caps.length) hfit
 have hnz:=G5 hn (gE caps.length) hfit
 have ht:=Gg hn hnow hnz
 have hg:=gG hn hnow hnz
 refine qq (m:=flows.length) (by omega) (fun n j (s:Int×List (List Int))=>jh n (tgS caps flows (qf caps flows (w0L caps.length)):Int) s.1 j caps flows 0 0 (ldL caps flows (qf caps flows (w0L caps.length))) [] [] s.2 [])
  (fun j=>(mxN (clA caps flows) j,(List.range j).map fun i=>tab (flows.getD i []).length (scS caps flows (qf caps flows (w0L caps.length)) i))) _ (fun n i hi=>?_) fun n=>?_
 ·show jh (n+1) _ _ _ _ _ _ _ _ _ _ _ _=jh n _ _ _ _ _ _ _ _ _ _ _ _
  obtain ⟨b,h,hb,_,hc,hh,hh2,hl,he,hv⟩:=gQ hn hfit hi
  have h4:=hn.sub i hi
  have e35:v35 caps flows (i:Int)=some (b:Int):=by rw [qeD hn hi,hc]
  have hlen:((flows.getD i []).getD b []).length=(pth flows i b).length:=rfl
  have hld:(ldL caps flows (qf caps flows (w0L caps.length))).length=caps.length:=qr _ _
  have hlg:(ldL caps flows (qf caps flows (w0L caps.length))).getD (tgS caps flows (qf caps flows (w0L caps.length))) 0=ql flows (qf caps flows (w0L caps.length)) (tgS caps flows (qf caps flows (w0L caps.length))):=qt _ ht.2.1
  have hct:=hn.cap (tgS caps flows (qf caps flows (w0L caps.length)))
  obtain ⟨b',_,_,hc',_,_,_,h0⟩:=Gd hn (gE _) hfit hi
  have hbb:b'=b:=by omega
  subst hbb
  have hnb:rt (qf caps flows (w0L caps.length)) i b'=ja caps flows (w0L caps.length) i b':=qL _ hi hb
  have htot:qo caps flows (qf caps flows (w0L caps.length)) i=scS caps flows (qf caps flows (w0L caps.length)) i b':=by
   unfold qo qp scR
   rw [HM _ hi,qr,gl hb fun t ht' hne=>?_,qt _ hb]
   rw [qt _ ht']
   unfold scS
   rw [show rt (qf caps flows (w0L caps.length)) i t=ja caps flows (w0L caps.length) i t from qL _ hi ht',h0 t hne,Int.zero_mul,Int.zero_ediv]
  have hx:=Ko hn hfit hi
  have hsb:=qcK hn hnow hnz hi hb
  have p1:=Int.mul_le_mul hv.2 hct.2 hct.1 (by omega)
  have p2:=Int.mul_nonneg (show 0<=1000000000 / h by omega) hct.1
  have hval:Int.tdiv (1000000000 / h*caps.getD (tgS caps flows (qf caps flows (w0L caps.length))) 0*1000000) (ql flows (qf caps flows (w0L caps.length)) (tgS caps flows (qf caps flows (w0L caps.length))))=scS caps flows (qf caps flows (w0L caps.length)) i b':=by
   rw [Int.tdiv_eq_ediv_of_nonneg (by omega)]
   unfold scS
   rw [hnb,he,Int.mul_assoc,Int.mul_comm (caps.getD _ 0) 1000000]
  have hset:(List.replicate (flows.getD i []).length (0:Int)).set b' (scS caps flows (qf caps flows (w0L caps.length)) i b')=tab (flows.getD i []).length (scS caps flows (qf caps flows (w0L caps.length)) i):=by
   rw [qF,qV]
   refine qn fun t ht'=>?_
   by_cases c:t=b'
   ·rw [if_pos c,c]
   ·rw [if_neg c]
    unfold scS
    rw [show rt (qf caps flows (w0L caps.length)) i t=ja caps flows (w0L caps.length) i t from qL _ hi ht',h0 t c,Int.zero_mul,Int.zero_ediv]
  have hq:Int.tdiv 1000000000 (((flows.getD i []).getD b' []).length:Int)=1000000000 / h:=by
   rw [hlen,<- hh];exact Int.tdiv_eq_ediv_of_nonneg (by omega)
  have hhop:KQ caps flows i=h:=by unfold KQ;rw [hl];omega
  have e204:gp (tgS caps flows (qf caps flows (w0L caps.length)):Int) (mxN (clA caps flows) i) (i:Int) (tab (flows.getD i []).length (scS caps flows (qf caps flows (w0L caps.length)) i)) (b':Int) (((flows.getD i []).getD b' []).length:Int) caps flows 0 0 (ldL caps flows (qf caps flows (w0L caps.length))) [] [] ((List.range i).map fun i=>tab (flows.getD i []).length (scS caps flows (qf caps flows (w0L caps.length)) i)) []=
    some (mxN (clA caps flows) (i+1),(List.range (i+1)).map fun i=>tab (flows.getD i []).length (scS caps flows (qf caps flows (w0L caps.length)) i)):=by
   have hx2:scS caps flows (qf caps flows (w0L caps.length)) i b'=qo caps flows (qf caps flows (w0L caps.length)) i:=htot.symm
   have hlen':(((flows.getD i []).getD b' []).length:Int)=h:=by rw [hlen,<- hh]
   have htg:(tab (flows.getD i []).length (scS caps flows (qf caps flows (w0L caps.length)) i)).getD b' 0=qo caps flows (qf caps flows (w0L caps.length)) i:=(qt _ hb).trans hx2
   have m1:=Int.mul_le_mul hh2.2 (show qo caps flows (qf caps flows (w0L caps.length)) i<=1000000000 by omega) (by omega) (by omega)
   have m2:=Int.mul_le_mul hh2.1 (show 20833<=qo caps flows (qf caps flows (w0L caps.length)) i from hx) (by omega) (by omega)
   have w1:wI (h*qo caps flows (qf caps flows (w0L caps.length)) i)=h*qo caps flows (qf caps flows (w0L caps.length)) i:=qj (by omega) (by omega)
   have hcl:Int.tdiv (1000000000000+h*qo caps flows (qf caps flows (w0L caps.length)) i - 1) (h*qo caps flows (qf caps flows (w0L caps.length)) i)=clA caps flows i:=by unfold clA cq;rw [hhop]
   have hcb:=HJ (p:=h*qo caps flows (qf caps flows (w0L caps.length)) i) (c:=1000000000000) (by omega) (by omega)
   have w2:wI (1000000000000+h*qo caps flows (qf caps flows (w0L caps.length)) i)=1000000000000+h*qo caps flows (qf caps flows (w0L caps.length)) i:=qj (by omega) (by omega)
   have w3:wI (1000000000000+h*qo caps flows (qf caps flows (w0L caps.length)) i - 1)=1000000000000+h*qo caps flows (qf caps flows (w0L caps.length)) i - 1:=qj (by omega) (by omega)
   have w4:wI (clA caps flows i)=clA caps flows i:=qj (by rw [<- hcl];omega) (by rw [<- hcl];omega)
   unfold gp KU ck
   simp only [List.length_map,List.length_range,List.length_cons,List.length_nil,qr,Int.toNat_natCast,htg,hlen',w1,w2,w3,hcl,w4]
   rw [qd (show i+(0+1)<=2147483648 by omega),qd (show (0:Int)<=(b':Int) by omega),qd (show (b':Int) < ((flows.getD i []).length:Int) by omega),qd (show h*qo caps flows (qf caps flows (w0L caps.length)) i≠0 by omega),List.range_succ,List.map_append]
   rfl
  rw [D2];unfold Jc ck;(repeat rewrite [obE]);rw [qd (show (i:Int) < (flows.length:Int) by omega),qd (show (0:Int)<=(i:Int) by omega),up1 (by omega)]
  simp only [e35,Int.toNat_natCast,qg,qe,cond_true,List.length_replicate,hq,hld,hlg]
  rw [qd (Int.le_refl _),qd (show ((flows.getD i []).length:Int)<=((2147483648:Nat):Int) by omega),qd (show (0:Int)<=(b':Int) by omega),qd (show (b':Int) < ((flows.getD i []).length:Int) by omega),qd (show (((flows.getD i []).getD b' []).length:Int)≠0 by rw [hlen];omega),qd (show (0:Int)<=(tgS caps flows (qf caps flows (w0L caps.length)):Int) by omega),qd (show (tgS caps flows (qf caps flows (w0L caps.length)):Int) < (caps.length:Int) by omega),qd (show (tgS caps flows (qf caps flows (w0L caps.length)):Int) < (caps.length:Int) by omega),qd ht.2.1,qd (show ql flows (qf caps flows (w0L caps.length)) (tgS caps flows (qf caps flows (w0L caps.length)))≠0 by omega),qd (show (b':Int) < ((flows.getD i []).length:Int) by omega),qd hb]
  rw [qj (x:=1000000000 / h) (by omega) (by omega),qj (x:=1000000000 / h*caps.getD (tgS caps flows (qf caps flows (w0L caps.length))) 0) (by omega) (by omega),qj (x:=1000000000 / h*caps.getD (tgS caps flows (qf caps flows (w0L caps.length))) 0*1000000) (by omega) (by omega),hval,qj (x:=scS caps flows (qf caps flows (w0L caps.length)) i b') (by omega) (by omega),hset,e204]
  rfl
 ·show jh (n+1) _ _ _ _ _ _ _ _ _ _ _ _=_
  rw [D2];unfold Jc ck;(repeat rewrite [obE]);rw [qh (show ¬ (flows.length:Int) < (flows.length:Int) by omega)]
  rfl
end
theorem qcJ (f:Nat->Bool) (j:Nat):(List.range (j+1)).any f=((List.range j).any f||f j):=by rw [List.range_succ,List.any_append];simp
def onF (flows:Fl) (k:Int) (i:Nat):Bool:=(List.range (flows.getD i []).length).any fun t=>((flows.getD i []).getD t []).any (·==k)
def onN (flows:Fl) (k:Int):Bool:=(List.range flows.length).any (onF flows k)
section
variable {caps : List Int} {flows : Fl} (hn : Nw caps flows)
include hn
theorem one_ld {i t j:Nat} (hi:i < flows.length) (ht:t < (flows.getD i []).length) (hj:j < (pth flows i t).length):ql flows (qA flows) ((pth flows i t).getD j 0).toNat > 0:=by
 have hg2:∀ i' t',i' < flows.length->t' < (flows.getD i' []).length->0<=pk (pth flows i' t') (rt (qA flows) i' t') ((pth flows i t).getD j 0).toNat:=fun i' t' hi' ht'=>by
  have e:rt (qA flows) i' t'=1:=qL _ hi' ht'
  rw [e]
  rcases gI hn hi' ht' ((pth flows i t).getD j 0).toNat with h | ⟨h,_⟩<;>rw [h]<;>omega
 have h1:=jM (flows.getD i []).length (f:=fun t'=>pk (pth flows i t') (rt (qA flows) i t') ((pth flows i t).getD j 0).toNat) ht (fun t' ht'=>hg2 i t' hi ht')
 have h2:=jM flows.length (f:=fun i'=>qi (flows.getD i' []).length fun t'=>pk (pth flows i' t') (rt (qA flows) i' t') ((pth flows i t).getD j 0).toNat) hi (fun i' hi'=>jx fun t' ht'=>hg2 i' t' hi' ht')
 have e:rt (qA flows) i t=1:=qL _ hi ht
 simp only [qcI hn hi ht hj,e] at h1
 exact Int.lt_of_lt_of_le (show (0:Int) < 1 by omega) (Int.le_trans h1 h2)
theorem one_on (k:Nat):decide (ql flows (qA flows) k > 0)=onN flows (k:Int):=by
 rw [Bool.eq_iff_iff,decide_eq_true_iff]
 constructor
 ·intro h
  obtain ⟨i,hi,h1⟩:=KS h
  obtain ⟨t,ht,h2⟩:=KS h1
  rcases gI hn hi ht k with h3 | ⟨h3,j,hj,hk⟩
  ·rw [h3] at h2;omega
  ·exact List.any_eq_true.2 ⟨i,List.mem_range.2 hi,List.any_eq_true.2 ⟨t,List.mem_range.2 ht,List.any_eq_true.2 ⟨_,qU hj 0,by rw [hk];exact beq_self_eq_true _⟩⟩⟩
 ·intro h
  obtain ⟨i,hi,h1⟩:=List.any_eq_true.1 h
  obtain ⟨t,ht,h2⟩:=List.any_eq_true.1 h1
  rw [<- Kn _ (0:Int) fun x=>x==(k:Int)] at h2
  obtain ⟨j,hj,h3⟩:=List.any_eq_true.1 h2
  have e:((flows.getD i []).getD t []).getD j 0=(k:Int):=by simpa using h3
  have:=one_ld hn (List.mem_range.1 hi) (List.mem_range.1 ht) (j:=j) (List.mem_range.1 hj)
  rwa [show (pth flows i t).getD j 0=(k:Int) from e,Int.toNat_natCast] at this
theorem l18_96 {i:Nat} (hi:i < flows.length) (price p:Int) (k:Nat) (rates:List (List Int)) (prices:List Int) :
  jj FU price (k:Int) p (i:Int) 0 caps flows 0 0 [] [] rates prices=some (cond (onF flows (k:Int) i) price p):=by
 have h4:=hn.sub i hi
 refine qq (m:=(flows.getD i []).length) (by omega) (fun n j (s:Int)=>jj n price (k:Int) s (i:Int) j caps flows 0 0 [] [] rates prices) (fun j=>cond ((List.range j).any fun t=>((flows.getD i []).getD t []).any (·==(k:Int))) price p) _ (fun n t ht=>?_) fun n=>?_
 ·show jj (n+1) _ _ _ _ _ _ _ _ _ _ _ _ _=jj n _ _ (cond ((List.range (t+1)).any fun t=>((flows.getD i []).getD t []).any (·==(k:Int))) price p) _ _ _ _ _ _ _ _ _ _
  have hp:=hn.hop i t hi ht
  have e37:=qg7 ((flows.getD i []).getD t []) (show (pth flows i t).length<=20 by omega) (k:Int)
  rw [D5];unfold Je ck;(repeat rewrite [obE]);rw [qd (show (0:Int)<=(i:Int) by omega),qd (show (i:Int) < (flows.length:Int) by omega)]
  simp only [Int.toNat_natCast]
  rw [qd (show (t:Int) < ((flows.getD i []).length:Int) by omega),qd (show (0:Int)<=(t:Int) by omega),e37,up1 (by omega),qcJ]
  simp only [qg,qe,cond_true]
  cases ((flows.getD i []).getD t []).any (·==(k:Int)) with
  | true=>rw [Bool.or_true];rfl
  | false=>rw [Bool.or_false];rfl
 ·show jj (n+1) _ _ _ _ _ _ _ _ _ _ _ _ _=_
  rw [D5];unfold Je ck;(repeat rewrite [obE]);rw [qd (show (0:Int)<=(i:Int) by omega),qd (show (i:Int) < (flows.length:Int) by omega)]
  simp only [Int.toNat_natCast]
  rw [qh (show ¬ ((flows.getD i []).length:Int) < ((flows.getD i []).length:Int) by omega)]
  rfl
theorem l18_80 (price:Int) (k:Nat) (rates:List (List Int)) (prices:List Int):qX FU price (k:Int) 0 0 caps flows 0 0 [] [] rates prices=some (cond (onN flows (k:Int)) price 0):=by
 have hf:=hn.f1
 refine qq (m:=flows.length) (by omega) (fun n j (s:Int)=>qX n price (k:Int) s j caps flows 0 0 [] [] rates prices) (fun j=>cond ((List.range j).any (onF flows (k:Int))) price 0) _ (fun n i hi=>?_) fun n=>?_
 ·show qX (n+1) _ _ _ _ _ _ _ _ _ _ _ _=qX n _ _ (cond ((List.range (i+1)).any (onF flows (k:Int))) price 0) _ _ _ _ _ _ _ _ _
  rw [D4];unfold gW;(repeat rewrite [obE]);rw [qd (show (i:Int) < (flows.length:Int) by omega),l18_96 hn hi,up1 (by omega),qcJ]
  simp only [qg,qe,cond_true]
  cases onF flows (k:Int) i with
  | true=>rw [Bool.or_true];rfl
  | false=>rw [Bool.or_false];rfl
 ·show qX (n+1) _ _ _ _ _ _ _ _ _ _ _ _=_
  rw [D4];unfold gW;(repeat rewrite [obE]);rw [qh (show ¬ (flows.length:Int) < (flows.length:Int) by omega)]
  rfl
theorem l18_64 (price:Int) (rates:List (List Int)):ji FU price 0 caps flows 0 0 [] [] rates []=some (tab caps.length fun k=>cond (caps.getD k 0==0) 1000000000000 (cond (onN flows (k:Int)) price 0)):=by
 have hc:=hn.c1
 refine qq (m:=caps.length) (by omega) (fun n j (s:List Int)=>ji n price j caps flows 0 0 [] [] rates s) (fun j=>tab j fun k=>cond (caps.getD k 0==0) 1000000000000 (cond (onN flows (k:Int)) price 0)) _ (fun n k hk=>?_) fun n=>?_
 ·show ji (n+1) _ _ _ _ _ _ _ _ _ _=ji n _ _ _ _ _ _ _ _ _ _
  have ht:(tab (k+1) fun k=>cond (caps.getD k 0==0) 1000000000000 (cond (onN flows (k:Int)) price 0))=(tab k fun k=>cond (caps.getD k 0==0) 1000000000000 (cond (onN flows (k:Int)) price 0))++[cond (caps.getD k 0==0) 1000000000000 (cond (onN flows (k:Int)) price 0)]:=by
   unfold tab;rw [List.range_succ,List.map_append];rfl
  rw [D3];unfold Jd;(repeat rewrite [obE]);rw [qd (show (k:Int) < (caps.length:Int) by omega),l18_80 hn,up1 (by omega),ht]
  simp only [qg,qe,cond_true,Int.toNat_natCast,qr,List.length_cons,List.length_nil]
  rw [qd (show (0:Int)<=(k:Int) by omega),qd (show k+(0+1)<=2147483648 by omega),qd (show k+(0+1)<=2147483648 by omega)]
  cases caps.getD k 0==0<;>rfl
 ·show ji (n+1) _ _ _ _ _ _ _ _ _ _=_
  rw [D3];unfold Jd;(repeat rewrite [obE]);rw [qh (show ¬ (caps.length:Int) < (caps.length:Int) by omega)]
variable (hfit : Fit caps flows)
include hfit
theorem v18_eq:v18 caps flows=some ((G6 caps flows).1,(G6 caps flows).2.1,(G6 caps flows).2.2.1):=by
 have hc:=hn.c1
 have hw:=gE caps.length
 have hnow:=Ge hn hw hfit
 have hnz:=G5 hn hw hfit
 have hfull:=Jv hn hfit
 have ht:=Gg hn hnow hnz
 have hg:=gG hn hnow hnz
 have hld:(ldL caps flows (qf caps flows (w0L caps.length))).length=caps.length:=qr _ _
 have hlb:∀ k,0<=(ldL caps flows (qf caps flows (w0L caps.length))).getD k 0/\(ldL caps flows (qf caps flows (w0L caps.length))).getD k 0<=3000000000000000:=fun k=>by
  by_cases hk:k < caps.length
  ·rw [show (ldL caps flows (qf caps flows (w0L caps.length))).getD k 0=ql flows (qf caps flows (w0L caps.length)) k from qt _ hk]
   have:=qcF hn (by omega) hnow k
   omega
  ·rw [out1 (by omega)];omega
 have e32:=l18_32 hn hfit hld hlb
 rw [ht.1] at e32
 have e48:=l18_48 hn hfit
 have hx:∀ i,i < flows.length->1<=qo caps flows (qf caps flows (w0L caps.length)) i:=fun i hi=>by have:=Ko hn hfit hi;omega
 have hh:∀ i,i < flows.length->(1<=KQ caps flows i/\KQ caps flows i<=6)/\qs caps flows (w0L caps.length) i=1024*KQ caps flows i:=fun i hi=>by
  obtain ⟨b,h,_,_,_,_,hh2,hl,_⟩:=gQ hn hfit hi
  have:KQ caps flows i=h:=by unfold KQ;rw [hl];omega
  rw [this]
  exact ⟨hh2,hl⟩
 have hmx:=mx_nm (x:=qo caps flows (qf caps flows (w0L caps.length))) (l:=qs caps flows (w0L caps.length)) (h:=KQ caps flows) (m:=flows.length) hx (fun i hi=>(hh i hi).1) (fun i hi=>(hh i hi).2) flows.length (Nat.le_refl _)
 have hpr:(tab caps.length fun k=>cond (caps.getD k 0==0) 1000000000000 (cond (onN flows (k:Int)) (mxN (clA caps flows) flows.length) 0))=prL caps flows (w0L caps.length) (nmS caps flows (qf caps flows (w0L caps.length)) (w0L caps.length)):=by
  refine qn fun k hk=>?_
  unfold prS
  rw [one_on hn,show (w0L caps.length).getD k 0=1024 from qt _ hk]
  have:mxN (clA caps flows) flows.length=Int.tdiv ((nmS caps flows (qf caps flows (w0L caps.length)) (w0L caps.length)).1*1024+(nmS caps flows (qf caps flows (w0L caps.length)) (w0L caps.length)).2 - 1) (nmS caps flows (qf caps flows (w0L caps.length)) (w0L caps.length)).2:=hmx
  rw [this]
 have e64:=l18_64 hn (mxN (clA caps flows) flows.length) (scR caps flows (qf caps flows (w0L caps.length)))
 rw [hpr] at e64
 have hfew:Few caps flows (scR caps flows (qf caps flows (w0L caps.length))) (prL caps flows (w0L caps.length) (nmS caps flows (qf caps flows (w0L caps.length)) (w0L caps.length))):=qcD hn hg.rl hg.rli (by unfold prL;rw [qr];omega)
 have hcert:G6 caps flows=(scR caps flows (qf caps flows (w0L caps.length)),prL caps flows (w0L caps.length) (nmS caps flows (qf caps flows (w0L caps.length)) (w0L caps.length)),(gm caps flows (scR caps flows (qf caps flows (w0L caps.length))) (prL caps flows (w0L caps.length) (nmS caps flows (qf caps flows (w0L caps.length)) (w0L caps.length)))).1,(gm caps flows (scR caps flows (qf caps flows (w0L caps.length))) (prL caps flows (w0L caps.length) (nmS caps flows (qf caps flows (w0L caps.length)) (w0L caps.length)))).2==0):=by
  unfold G6 qw
  rw [hfull];rfl
 unfold v18 tv18;(repeat rewrite [obE])
 rw [Int.toNat_natCast,l18_0 hn hfit,qd (Int.le_refl _),qd (show (caps.length:Int)<=((2147483648:Nat):Int) by omega)]
 simp only [qg,qe,cond_true]
 rw [e32]
 simp only [qg,qe,cond_true]
 rw [e48]
 simp only [qg,qe,cond_true]
 rw [e64]
 simp only [qg,qe,cond_true]
 rw [v38_eq hfew,hcert]
 rfl
end
def refS (caps:List Int) (flows:Fl) (r:Int):List (List Int)×List Int×Int×Int:=
 cond (qC caps flows&&decide (0<=r/\r<=1000)) (cond (Gc caps flows) ((G6 caps flows).1,(G6 caps flows).2.1,(G6 caps flows).2.2.1,0) ([],[],0,4)) ([],[],0,1)
theorem v15_eq {caps:List Int} {flows:Fl} {rates:List (List Int)} {prices:List Int} (hf:Few caps flows rates prices) (r:Int):v15 caps flows r=some (refS caps flows r):=by
 unfold v15 tv15 refS;(repeat rewrite [obE])
 rw [qg3 hf]
 simp only [qg,qe,cond_true,qE]
 cases hv:qC caps flows with
 | false=>rfl
 | true=>
 rw [cond_true,Bool.true_and]
 by_cases c1:r < 0
 ·rw [qd c1,decide_eq_false (show ¬ (0<=r/\r<=1000) by omega)];rfl
 rw [qh c1]
 by_cases c2:r > 1000
 ·rw [qd c2,decide_eq_false (show ¬ (0<=r/\r<=1000) by omega)];rfl
 rw [qh c2,decide_eq_true (show 0<=r/\r<=1000 by omega),cond_true]
 have hn:=nw_of hv
 have hfl:=hn.f1
 have e0:jb FU 0 caps flows 0 [] []=some (cond (Gc caps flows) (.inr ()) (.inl (4,0))):=by
  refine qdD (m:=flows.length) (by omega) (fun n i=>jb n i caps flows 0 [] []) ((4,0):Int×Int) (fun i=>decide ((chS caps flows (w0L caps.length) i).1 < 0)) (fun n i hi=>?_) fun n=>?_
  ·show jb (n+1) _ _ _ _ _ _=_
   rw [qaS];unfold Gv;(repeat rewrite [obE]);rw [qd (show (i:Int) < (flows.length:Int) by omega),qeD hn hi,up1 (by omega)]
   rfl
  ·show jb (n+1) _ _ _ _ _ _=_
   rw [qaS];unfold Gv;(repeat rewrite [obE]);rw [qh (show ¬ (flows.length:Int) < (flows.length:Int) by omega)]
 rw [e0]
 cases hfit:Gc caps flows with
 | false=>rfl
 | true=>
  simp only [cond_true,gR,gu,qg,qe,cond_false]
  rw [v18_eq hn (fit_iff.1 hfit)]
  rfl
theorem l11_16 (rates:List (List Int)) (caps:List Int) (flows:Fl) {i:Nat} (hi:i < flows.length) (hf:(flows.getD i []).length<=20) :
  qG FU rates (i:Int) 0 caps flows=some (cond ((flows.getD i []).all fun l=>decide (l.length<=20)) (.inr ()) (.inl false)):=by
 rw [<- qD (flows.getD i []) [] fun l=>decide (l.length<=20)]
 refine qB (m:=(flows.getD i []).length) (by omega) (fun n j=>qG n rates (i:Int) j caps flows) _ (fun n j hj=>?_) fun n=>?_
 ·show qG (n+1) _ _ _ _ _=_
  rw [DW];unfold G8 ck;rw [decide_eq_true (show (0:Int)<=(i:Int) by omega),decide_eq_true (show (i:Int) < (flows.length:Int) by omega)]
  simp only [cond_true,Int.toNat_natCast]
  rw [decide_eq_true (show (j:Int) < ((flows.getD i []).length:Int) by omega),decide_eq_true (show (0:Int)<=(j:Int) by omega),up1 (by omega),dgt]
  simp only [cond_true,qE]
 ·show qG (n+1) _ _ _ _ _=_
  rw [DW];unfold G8 ck;rw [decide_eq_true (show (0:Int)<=(i:Int) by omega),decide_eq_true (show (i:Int) < (flows.length:Int) by omega)]
  simp only [cond_true,Int.toNat_natCast]
  rw [decide_eq_false (show ¬ ((flows.getD i []).length:Int) < ((flows.getD i []).length:Int) by omega)]
  rfl
theorem l11_0 (rates:List (List Int)) (caps:List Int) (flows:Fl) (hl:flows.length<=20):jy FU rates 0 caps flows=some (cond (fewF flows) (.inr ()) (.inl false)):=by
 unfold fewF
 rw [<- qD flows [] fun f=>cond (decide (f.length<=20)) (f.all fun l=>decide (l.length<=20)) false]
 refine qB (m:=flows.length) (by omega) (fun n j=>jy n rates j caps flows) _ (fun n i hi=>?_) fun n=>?_
 ·show jy (n+1) _ _ _ _=_
  rw [qaQ];unfold JX;(repeat rewrite [obE]);rw [decide_eq_true (show (i:Int) < (flows.length:Int) by omega),decide_eq_true (show (0:Int)<=(i:Int) by omega),up1 (by omega),dgt]
  simp only [cond_true,Int.toNat_natCast,qE]
  by_cases h:(flows.getD i []).length<=20
  ·rw [decide_eq_true h,l11_16 rates caps flows hi h]
   simp only [cond_true]
   cases (flows.getD i []).all fun l=>decide (l.length<=20)<;>rfl
  ·rw [decide_eq_false h];rfl
 ·show jy (n+1) _ _ _ _=_
  rw [qaQ];unfold JX;(repeat rewrite [obE]);rw [decide_eq_false (show ¬ (flows.length:Int) < (flows.length:Int) by omega)]
  rfl
theorem l11_32 (rates:List (List Int)) (hl:rates.length<=20):qW FU rates 0=some (cond (rates.all fun l=>decide (l.length<=20)) (.inr ()) (.inl false)):=by
 rw [<- qD rates [] fun l=>decide (l.length<=20)]
 refine qB (m:=rates.length) (by omega) (fun n j=>qW n rates j) _ (fun n i hi=>?_) fun n=>?_
 ·show qW (n+1) _ _=_
  rw [DX];unfold G9;rw [decide_eq_true (show (i:Int) < (rates.length:Int) by omega),decide_eq_true (show (0:Int)<=(i:Int) by omega),up1 (by omega),dgt]
  simp only [cond_true,Int.toNat_natCast,qE]
 ·show qW (n+1) _ _=_
  rw [DX];unfold G9;rw [decide_eq_false (show ¬ (rates.length:Int) < (rates.length:Int) by omega)]
  rfl
theorem qg0 (caps:List Int) (flows:Fl) (rates:List (List Int)) (prices:List Int):v11 caps flows rates prices=some (DT caps flows rates prices):=by
 unfold v11 tv11 DT;(repeat rewrite [obE])
 simp only [dgt,qE]
 by_cases h1:caps.length<=20
 case neg=>rw [decide_eq_false h1];rfl
 by_cases h2:flows.length<=20
 case neg=>rw [decide_eq_true h1,decide_eq_false h2];rfl
 by_cases h3:rates.length<=20
 case neg=>rw [decide_eq_true h1,decide_eq_true h2,decide_eq_false h3];rfl
 by_cases h4:prices.length<=20
 case neg=>rw [decide_eq_true h1,decide_eq_true h2,decide_eq_true h3,decide_eq_false h4];rfl
 rw [decide_eq_true h1,decide_eq_true h2,decide_eq_true h3,decide_eq_true h4,l11_0 rates caps flows h2,l11_32 rates h3]
 simp only [cond_true,Bool.true_and]
 cases fewF flows with
 | false=>rfl
 | true=>cases rates.all fun l=>decide (l.length<=20)<;>rfl
theorem v17_eq (caps:List Int) (flows:Fl):v17 caps flows=some (DT caps flows [] []&&(qC caps flows&&Gc caps flows)):=by
 unfold v17 tv17;(repeat rewrite [obE])
 rw [qg0]
 simp only [qg,qe,cond_true,qE]
 cases hx:DT caps flows [] [] with
 | false=>rfl
 | true=>
  rw [cond_true,v15_eq (qde hx)]
  unfold refS
  cases qC caps flows with
  | false=>rfl
  | true=>
   rw [decide_eq_true (show (0:Int)<=0/\(0:Int)<=1000 by omega)]
   cases Gc caps flows<;>rfl
theorem qic {caps:List Int} {flows:Fl} {r:Int} (hf:Few caps flows [] []) (hv:qC caps flows=true) (hfit:Gc caps flows=true) (hr:0<=r/\r<=1000) :
  v14 caps flows r=some ((jK caps flows r).1,(jK caps flows r).2.1,(jK caps flows r).2.2,0)/\jJ caps flows (jK caps flows r)/\Few caps flows (jK caps flows r).1 (jK caps flows r).2.1:=by
 have hn:=nw_of hv
 have hc:=hn.c1
 have hR:=qcm hn (fit_iff.1 hfit) hv r.toNat
 refine ⟨?_,hR,?_⟩
 ·rw [v14_eq hf]
  unfold qeb
  rw [hv,hfit,decide_eq_true hr];rfl
 ·obtain ⟨_,h2,h3,_⟩:=Su hR
  unfold qS at h2
  unfold qO at h3
  rw [Bool.and_eq_true] at h2 h3
  have hl:=of_decide_eq_true h2.1
  refine qcD hn hl (fun i hi=>?_) (by
   have:=of_decide_eq_true h3.1
   show (stN caps flows (r.toNat+1)).2.2.2.2.1.length<=20
   omega)
  have:=List.all_eq_true.1 h2.2 i (List.mem_range.2 (by rw [hl];exact hi))
  by_cases c:((stN caps flows (r.toNat+1)).2.2.2.1.getD i []).length=(flows.getD i []).length
  ·exact c
  ·rw [decide_eq_false c] at this;cases this
section
variable {caps : List Int} {flows : Fl} {rates : List (List Int)} {prices : List Int} (h : Ok caps flows rates prices)
include h
theorem qeG {i t:Nat} (hi:i < flows.length) (ht:t < (flows.getD i []).length) (y:Int):qm (pth flows i t) prices*y=qi caps.length fun k=>prices.getD k 0*pk (pth flows i t) y k:=by
 unfold pk qm
 have e1:(qi caps.length fun k=>prices.getD k 0*qi (pth flows i t).length fun j=>cond ((pth flows i t).getD j 0==(k:Int)) y 0)=qi caps.length fun k=>qi (pth flows i t).length fun j=>prices.getD k 0*cond ((pth flows i t).getD j 0==(k:Int)) y 0:=
  qK fun k _=>(gv _ _ _).symm
 rw [e1,Sw,<- gw]
 apply qK
 intro j hj
 have hl:=h.link i t j hi ht hj
 have hp:Int.toNat ((pth flows i t).getD j 0) < caps.length:=by omega
 rw [gl hp fun k hk hne=>by
  rw [beq_false_of_ne (show (pth flows i t).getD j 0≠(k:Int) by omega)]
  simp only [cond_false,Int.mul_zero]]
 rw [show ((pth flows i t).getD j 0==((Int.toNat ((pth flows i t).getD j 0):Nat):Int))=true by rw [beq_iff_eq];omega]
 simp only [cond_true]
theorem qgB:(qi flows.length fun i=>qi (flows.getD i []).length fun t=>qm (pth flows i t) prices*rt rates i t)=qi caps.length fun k=>prices.getD k 0*ql flows rates k:=by
 have e1:(qi flows.length fun i=>qi (flows.getD i []).length fun t=>qm (pth flows i t) prices*rt rates i t)=qi flows.length fun i=>qi caps.length fun k=>prices.getD k 0*qi (flows.getD i []).length fun t=>pk (pth flows i t) (rt rates i t) k:=by
  apply qK
  intro i hi
  have e2:(qi (flows.getD i []).length fun t=>qm (pth flows i t) prices*rt rates i t)=qi (flows.getD i []).length fun t=>qi caps.length fun k=>prices.getD k 0*pk (pth flows i t) (rt rates i t) k:=
   qK fun t ht=>qeG h hi ht _
  rw [e2,Sw]
  exact qK fun k _=>gv _ _ _
 rw [e1,Sw]
 apply qK
 intro k _
 unfold ql
 rw [<- gv]
theorem pay_le (hc:qJ caps flows rates=true):(qi flows.length fun i=>qi (flows.getD i []).length fun t=>qm (pth flows i t) prices*rt rates i t)<=1000000*qz caps prices:=by
 rw [qgB h]
 unfold qz
 rw [h.pl,<- gv]
 apply gS
 intro k hk
 have h1:=List.all_eq_true.1 hc k (List.mem_range.2 hk)
 have h2:=h.price k
 have h3:prices.getD k 0*ql flows rates k<=prices.getD k 0*(1000000*caps.getD k 0):=Int.mul_le_mul_of_nonneg_left (by simpa using h1) h2.1
 have h4:prices.getD k 0*(1000000*caps.getD k 0)=1000000*(prices.getD k 0*caps.getD k 0):=by rw [<- Int.mul_assoc,Int.mul_comm (prices.getD k 0) 1000000,Int.mul_assoc]
 rw [<- h4];exact h3
omit h in
theorem qbz (h:Ok caps flows rates prices) (hs:gD flows rates prices=true) {i:Nat} (hi:i < flows.length):1<=qp (rates.getD i [])/\∀ t,t < (flows.getD i []).length->1000000000000<=qm (pth flows i t) prices*qp (rates.getD i []):=by
 have h1:=List.all_eq_true.1 hs i (List.mem_range.2 hi)
 have h2:∀ t,t < (flows.getD i []).length->1000000000000<=qm (pth flows i t) prices*qp (rates.getD i []):=fun t ht=>by simpa using List.all_eq_true.1 h1 t (List.mem_range.2 ht)
 refine ⟨?_,h2⟩
 have h3:=h2 0 (by have:=(h.sub i hi).1;omega)
 have h4:=JQ h i
 by_cases c:qp (rates.getD i [])=0
 ·rw [c,Int.mul_zero] at h3;omega
 ·omega
end
theorem bound {caps:List Int} {flows:Fl} {rates other:List (List Int)} {prices:List Int} (h:Ok caps flows rates prices) (h':Ok caps flows other prices) (hs:gD flows rates prices=true) (hc:qJ caps flows other=true) :
  (qi flows.length fun i=>Int.tdiv (1000000*qp (other.getD i [])) (qp (rates.getD i [])))<=qz caps prices:=by
 have h1:=pay_le h' hc
 have h2:(qi flows.length fun i=>1000000*Int.tdiv (1000000*qp (other.getD i [])) (qp (rates.getD i [])))<=qi flows.length fun i=>qi (flows.getD i []).length fun t=>qm (pth flows i t) prices*rt other i t:=by
  apply gS
  intro i hi
  obtain ⟨hx,hp⟩:=qbz h hs hi
  have hy:=JQ h' i
  generalize hX:qp (rates.getD i [])=x at*
  have hq:Int.tdiv (1000000*qp (other.getD i [])) x*x<=1000000*qp (other.getD i []):=by
   rw [Int.tdiv_eq_ediv_of_nonneg (by omega)]
   exact Int.ediv_mul_le _ (by omega)
  generalize Int.tdiv (1000000*qp (other.getD i [])) x=q at*
  have hS:1000000000000*qp (other.getD i [])<=(qi (flows.getD i []).length fun t=>qm (pth flows i t) prices*rt other i t)*x:=by
   unfold qp
   rw [h'.rli i hi,<- gv,<- gw]
   apply gS
   intro t ht
   have hr:=h'.rate i t
   have:=Int.mul_le_mul_of_nonneg_right (hp t ht) hr.1
   have e:qm (pth flows i t) prices*x*rt other i t=qm (pth flows i t) prices*rt other i t*x:=by rw [Int.mul_assoc,Int.mul_comm x,<- Int.mul_assoc]
   rw [e] at this
   exact this
  generalize (qi (flows.getD i []).length fun t=>qm (pth flows i t) prices*rt other i t)=S at*
  apply Int.le_of_mul_le_mul_right (a:=x) (h:=by omega)
  calc 1000000*q*x=1000000*(q*x):=Int.mul_assoc _ _ _
   _<=1000000*(1000000*qp (other.getD i [])):=Int.mul_le_mul_of_nonneg_left hq (by omega)
   _=1000000000000*qp (other.getD i []):=by omega
   _<=S*x:=hS
 rw [gv] at h2
 omega
theorem quo_bd {x y:Int} (hx:1<=x) (hy:0<=y/\y<=20*1000000000):0<=Int.tdiv (1000000*y) x/\Int.tdiv (1000000*y) x<=1000000*(20*1000000000):=by
 rw [Int.tdiv_eq_ediv_of_nonneg (by omega)]
 refine ⟨Int.ediv_nonneg (by omega) (by omega),?_⟩
 exact Int.le_trans (Int.ediv_le_self _ (by omega)) (by omega)
theorem v5_true (caps:List Int) (flows:Fl) (other:List (List Int)) (r:Int):v5 caps flows other r=some true:=by
 have hv:v10=some true:=rfl
 unfold v5 tv5;(repeat rewrite [obE])
 rw [v17_eq,qg0,hv]
 simp only [qg,qe,cond_true,qE]
 cases hx:DT caps flows [] []&&(qC caps flows&&Gc caps flows) with
 | false=>rfl
 | true=>
 cases hx2:DT caps flows other [] with
 | false=>rfl
 | true=>
 rw [cond_true,cond_true]
 simp only [Bool.and_eq_true] at hx
 have hf2:=qde hx2
 by_cases c1:r < 0
 ·rw [qd c1]
 rw [qh c1]
 by_cases c2:r > 1000
 ·rw [qd c2]
 rw [qh c2]
 obtain ⟨e14,hR,hF⟩:=qic (qde hx.1) hx.2.1 hx.2.2 (show 0<=r/\r<=1000 by omega)
 obtain ⟨_,hr,hp,hs,hg,hg2⟩:=Su hR
 rw [qg1 hf2]
 simp only [qg,qe,cond_true]
 cases ho:qS flows other with
 | false=>rfl
 | true=>
 generalize hRR:(jK caps flows r).1=R at*
 generalize hPP:(jK caps flows r).2.1=P at*
 generalize hGG:(jK caps flows r).2.2=g at*
 have hok:=qd3 hF hx.2.1 hr hp
 have hok2:=qd3 (rates:=other) (prices:=P) ⟨hf2.hc,hf2.hf,hf2.hr,hF.hp,hf2.flow,hf2.path,hf2.rate⟩ hx.2.1 ho hp
 rw [qg2 hok2]
 simp only [cond_true,qg,qe]
 cases hc:qJ caps flows other with
 | false=>rfl
 | true=>
 rw [cond_true]
 unfold jO at hs
 simp only [Bool.and_eq_true] at hs
 have hb:=bound hok hok2 hs.2 hc
 have hfl:=hf2.hf
 have hrl:=hok2.rl
 have hrl1:=hok.rl
 have hco:=Gs hok (j:=P.length) hF.hp
 have hco':0<=qz caps P/\qz caps P<=20*(1000000000000*1000):=hco
 have hq:∀ i,i < flows.length->0<=Int.tdiv (1000000*qp (other.getD i [])) (qp (R.getD i []))/\Int.tdiv (1000000*qp (other.getD i [])) (qp (R.getD i []))<=1000000*(20*1000000000):=fun i hi=>quo_bd (qbz hok hs.2 hi).1 (JQ hok2 i)
 have hbs:∀ j,j<=flows.length->0<=(qi j fun i=>Int.tdiv (1000000*qp (other.getD i [])) (qp (R.getD i [])))/\(qi j fun i=>Int.tdiv (1000000*qp (other.getD i [])) (qp (R.getD i [])))<=20*(1000000*(20*1000000000)):=fun j hj=>
  qy (m:=20) (by omega) (fun q hq'=>hq q (by omega)) (by omega)
 have h0:qR FU other true 0 0 R P g=some (.inr (qi flows.length fun i=>Int.tdiv (1000000*qp (other.getD i [])) (qp (R.getD i [])))):=by
  refine qq (m:=flows.length) (by omega) (fun n j (s:Int)=>qR n other true s j R P g) (fun j=>qi j fun i=>Int.tdiv (1000000*qp (other.getD i [])) (qp (R.getD i []))) _ (fun n i hi=>?_) fun n=>?_
  ·show qR (n+1) _ _ _ _ _ _ _=qR n _ _ _ _ _ _ _
   have hx1:=(qbz hok hs.2 hi).1
   have hy:=JQ hok2 i
   have hqi:=hq i hi
   have hb0:=hbs i (by omega)
   have hb1:=hbs (i+1) (by omega)
   have e132:Gm other true (qi i fun i=>Int.tdiv (1000000*qp (other.getD i [])) (qp (R.getD i []))) (i:Int) (qp (R.getD i [])) R P g=some (qi (i+1) fun i=>Int.tdiv (1000000*qp (other.getD i [])) (qp (R.getD i []))):=by
    have e21:=qez hok2 i
    have w1:wI (qp (other.getD i [])*1000000)=1000000*qp (other.getD i []):=by rw [qj (by omega) (by omega),Int.mul_comm]
    unfold Gm Kx ck;(repeat rewrite [obE])
    simp only [Int.toNat_natCast,e21,qg,qe,cond_true,w1]
    rw [qd (show (0:Int)<=(i:Int) by omega),qd (show (i:Int) < (other.length:Int) by omega),qd (show qp (R.getD i [])≠0 by omega),qj (x:=Int.tdiv (1000000*qp (other.getD i [])) (qp (R.getD i []))) (by omega) (by omega),qj (by simp only [qi] at hb1;omega) (by simp only [qi] at hb1;omega)]
    rfl
   have e21:=qez hok i
   rw [qdg];unfold JP ck;(repeat rewrite [obE]);rw [qd (show (i:Int) < (other.length:Int) by omega),qd (show (0:Int)<=(i:Int) by omega),qd (show (i:Int) < (R.length:Int) by omega),up1 (by omega)]
   simp only [Int.toNat_natCast,e21,qg,qe,cond_true,e132]
   rw [qh (show ¬ qp (R.getD i []) < 1 by omega)]
  ·show qR (n+1) _ _ _ _ _ _ _=_
   rw [qdg];unfold JP ck;(repeat rewrite [obE]);rw [qh (show ¬ (flows.length:Int) < (other.length:Int) by omega)]
 have hl:((R.length:Int) != (other.length:Int))=false:=by rw [JO,decide_eq_true (by omega)];rfl
 have e52:JN other r true caps flows=some true:=by
  unfold JN KV;(repeat rewrite [obE])
  rw [e14]
  simp only [qg,qe,cond_true]
  rw [show ((0:Int) != 0)=false from rfl,cond_false,hl,cond_false]
  show cond (isL (qR FU other true 0 0 R P g)) (some (zx (qR FU other true 0 0 R P g))) (cond (ok (zB (qR FU other true 0 0 R P g))) (some (decide (val (zB (qR FU other true 0 0 R P g))<=wI (wI (1000000*(other.length:Int))+g)))) none)=some true
  rw [h0]
  simp only [gR,gu,qg,qe,cond_true,cond_false]
  rw [qj (x:=1000000*(other.length:Int)) (by omega) (by omega),qj (x:=1000000*(other.length:Int)+g) (by omega) (by omega)]
  exact congrArg some (decide_eq_true (show (qi flows.length fun i=>Int.tdiv (1000000*qp (other.getD i [])) (qp (R.getD i [])))<=1000000*(other.length:Int)+g by omega))
 rw [e52]
 rfl
end Go.Proofs.Ytpfphfobneehmaa
set_option maxRecDepth 100000
namespace Go.Proofs.Ytpfphfobneehmaa
open Go Go.ChangeShapes Go.WideShapes Go.ChangeAt Go.RowKit Go.AM Go.TM
theorem own0:ownKnob Try.prog.godebug=none:=by kernel_rfl
theorem laid0:laidOutB Try.prog=true:=by kernel_rfl
abbrev taus:List Ty:=[.pair (.list 3 (.int .i64)) (.list 31 (.list 22 (.list 3 (.int .i64)))),.list 22 (.list 3 (.int .i64)),.int .i64]
theorem args0 (x:((List Int)×(List (List (List Int))))×(List (List Int))×Int×Unit):Ww Try.prog Try.f5.params.toList taus x=[.agg [.d 3 (.int .i64) x.1.1,.d 31 (.list 22 (.list 3 (.int .i64))) x.1.2],.sc (.d 22 (.list 3 (.int .i64)) x.2.1),.sc (.int .i64 x.2.2.1)]:=by
 kernel_rfl
theorem law_run:∀ x:Tup taus,InTup taus x->∃ k H',TM.evF Try.prog S209.n dOk k 5 (Ww Try.prog Try.f5.params.toList taus x) []=some ([.sc (.bool true)],H'):=by
 intro x hx
 have e:=args0 x
 rw [e]
 refine ⟨41,[],(fn_eq (by kernel_rfl)).trans ((ev5 ..).trans (bD ?_))⟩
 exact v5_true _ _ _ _
theorem qe5 (os:Os) (started:os.Started) (H:Type) (enc:TypeId×Value->H) :
  ReturnsInHanded {} Try.checked os 5 .any (Rows.multiFairSpec.pre6 enc Try.prog Try.f5 Rows.multiFairRow.domain false) (Rows.multiFairSpec.post enc Try.prog Try.f5 false true false false):=
 law_tm (C:=Try.checked) (τs:=taus) (tb:=4) (base:=base) (O:=S209.o) (T:=S209.t) own0 started (by kernel_rfl) Try.func5
  (ChangeSpec.witness6 (enc:=enc) (C:=Try.checked) false ⟨#[],#[.agg #[.slice none 0 0,.slice none 0 0],.slice none 0 0,.int .i64 0],[]⟩ 8 (by kernel_rfl) (by kernel_rfl) (by kernel_rfl) (by kernel_rfl))
  laid0 (by kernel_rfl) (by kernel_rfl) rfl (by kernel_rfl) names mixed S209.ok (by kernel_rfl) (by kernel_rfl)
  (fun ds h=>by
   match ds,h with
   | [_,_,_],_=>rfl)
  law_run
theorem multiFair_holds:Rows.MultiFairSaid:=
 OpenClaim.holds_of_wide 5 Try.f5 rfl rfl rfl rfl rfl rfl rfl ⟨rfl,rfl,rfl,rfl,rfl⟩ rfl rfl rfl rfl rfl (by kernel_rfl) Try.func5 (by kernel_rfl)
  (of_decide_eq_true (by kernel_rfl)) (by unfold Func.isWrapper;first | (rw [if_pos (by decide +kernel)];kernel_rfl) | (rw [if_neg (by decide +kernel)];exact ⟨rfl,rfl⟩))
  (fun os started H enc _=>qe5 os started H enc)
end Go.Proofs.Ytpfphfobneehmaa
