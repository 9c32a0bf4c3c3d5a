/- MultiOneLink: it returns true at every input; no conditions. -/
import Derived.Test.YtpfphfobneehmaaLMultiOneLink0
import Derived.Test.YtpfphfobneehmaaRows
import Derived.ProofKit
set_option linter.all false
namespace Go.Proofs.Ytpfphfobneehmaa
open Go Go.AM Go.TM Go.Proofs
def gi:List Int->Int
 | []=>0
 | x::l=>l.foldl max x
theorem qbj:∀ (l:List Int) (o:Int),o<=l.foldl max o/\∀ x∈l,x<=l.foldl max o
 | [],o=>⟨Int.le_refl _,fun x hx=>nomatch hx⟩
 | y::l,o=>by
  obtain ⟨h1,h2⟩:=qbj l (max o y)
  refine ⟨by simp only [List.foldl_cons];omega,fun x hx=>?_⟩
  simp only [List.foldl_cons]
  rcases List.mem_cons.1 hx with rfl | hx
  ·omega
  ·exact h2 x hx
theorem maxL_ge:∀ {l:List Int} {x:Int},x∈l->x<=gi l
 | y::l,x,hx=>by
  obtain ⟨h1,h2⟩:=qbj l y
  rcases List.mem_cons.1 hx with rfl | hx
  ·exact h1
  ·exact h2 x hx
def jj (caps:List Int) (flows:Fl) (ws:List Int) (i t:Nat):Int:=cond ((chS caps flows ws i).1==(t:Int)) (1000000000*1024 / (chS caps flows ws i).2) 0
def qh (caps:List Int) (flows:Fl) (ws:List Int):List (List Int):=rtT flows (jj caps flows ws)
def fulS (caps:List Int) (flows:Fl) (ws:List Int) (k:Nat):Int:=
 Int.tdiv (Int.tdiv (qm flows (qh caps flows ws) k*caps.getD (tgS caps flows (qh caps flows ws)) 0) (qm flows (qh caps flows ws) (tgS caps flows (qh caps flows ws)))*1000) (caps.getD k 0)
def nxS (caps:List Int) (flows:Fl) (ws:List Int) (k:Nat):Int:=
 cond (decide (caps.getD k 0 > 0)) (min 1048576 (max 16 (Int.tdiv (ws.getD k 0*(1000+min (fulS caps flows ws k) 1000)) 1500))) (ws.getD k 0)
def nxL (caps:List Int) (flows:Fl) (ws:List Int):List Int:=tab caps.length (nxS caps flows ws)
def mnS (h:List Int) (k:Nat):Int:=max 16 (Int.tdiv (h.getD k 0*1024) (max 1 (gi h)))
def mnL (h:List Int):List Int:=tab h.length (mnS h)
def qT (flows:Fl) (a b:List (List Int)):List (List Int):=rtT flows fun i t=>rt a i t+rt b i t
def qA (a b:List Int):List Int:=tab a.length fun k=>a.getD k 0+b.getD k 0
abbrev Bst:=List (List Int)×List Int×Int
def qI (o:Bst) (c:Cert):Bst:=cond c.2.2.2 (cond (decide (o.1.length=0)) (c.1,c.2.1,c.2.2.1) (cond (decide (c.2.2.1 < o.2.2)) (c.1,c.2.1,c.2.2.1) o)) o
abbrev Stt:=List Int×List (List Int)×List Int×Bst
def rdS (caps:List Int) (flows:Fl) (s:Stt):Stt:=
 (nxL caps flows s.1,qT flows s.2.1 (qh caps flows s.1),qA s.2.2.1 s.1,
  qI (qI s.2.2.2 (qx caps flows (qh caps flows s.1) s.1)) (qx caps flows (qT flows s.2.1 (qh caps flows s.1)) (mnL (qA s.2.2.1 s.1))))
def w0L (n:Nat):List Int:=tab n fun _=>1024
def stN (caps:List Int) (flows:Fl):Nat->Stt
 | 0=>(w0L caps.length,rtT flows (fun _ _=>0),tab caps.length (fun _=>0),[],[],0)
 | k+1=>rdS caps flows (stN caps flows k)
theorem jL (n:Nat):Wt n (w0L n):=⟨qr _ _,fun k hk=>by unfold w0L;rw [qu _ hk];omega⟩
section
variable {caps : List Int} {flows : Fl} (hn : Nw caps flows) {ws : List Int} (hw : Wt caps.length ws) (hfit : Fit caps flows)
include hn hw hfit
theorem G7 {i:Nat} (hi:i < flows.length):∃ b:Nat,b < (flows.getD i []).length/\qU caps (pth flows i b)=true/\(chS caps flows ws i).1=(b:Int)/\(16<=qs caps flows ws i/\qs caps flows ws i<=6291456)/\(162760<=jj caps flows ws i b/\jj caps flows ws i b<=64000000000)/\jj caps flows ws i b=1024000000000 / qs caps flows ws i/\∀ t:Nat,t≠b->jj caps flows ws i t=0:=by
 obtain ⟨b,h1,h2,h3,_,_,h4⟩:=DS hn hw hfit hi
 have e1:(chS caps flows ws i).1=(b:Int):=congrArg Prod.fst h3
 have e2:jj caps flows ws i b=1024000000000 / qs caps flows ws i:=by
  unfold jj
  rw [e1,beq_self_eq_true];rfl
 refine ⟨b,h1,h2,e1,h4,?_,e2,fun t ht=>?_⟩
 ·rw [e2]
  refine ⟨(Int.le_ediv_iff_mul_le (by omega)).2 (by omega),?_⟩
  have:1024000000000 / qs caps flows ws i < 64000000001:=(Int.ediv_lt_iff_lt_mul (by omega)).2 (by omega)
  omega
 ·unfold jj
  rw [e1,show ((b:Int)==(t:Int))=false from by rw [qw];exact decide_eq_false (by omega)];rfl
theorem now_bd {i t:Nat} (hi:i < flows.length):0<=jj caps flows ws i t/\jj caps flows ws i t<=64000000000:=by
 obtain ⟨b,_,_,_,_,h,_,h0⟩:=G7 hn hw hfit hi
 by_cases c:t=b
 ·rw [c];omega
 ·rw [h0 t c];omega
theorem gk:Rg caps flows 64000000000 (qh caps flows ws):=by
 refine JC (by omega) (fun i t hi ht=>now_bd hn hw hfit hi) fun i t hi ht h=>?_
 obtain ⟨b,_,hu,_,_,_,_,h0⟩:=G7 hn hw hfit hi
 by_cases c:t=b
 ·rw [c];exact hu
 ·exact absurd (h0 t c) h
theorem gj:Nz flows (qh caps flows ws):=by
 obtain ⟨b,hb,_,_,_,h,_⟩:=G7 hn hw hfit (i:=0) (by have:=hn.f1;omega)
 have hf:=hn.f1
 refine ⟨0,b,by omega,hb,?_⟩
 show 0 < rt (rtT flows _) 0 b
 rw [qS _ (by omega) hb];omega
theorem now_ld {m:Int} (hm:∀ i t,i < flows.length->jj caps flows ws i t<=m) (hm0:0<=m) (k:Nat):0<=qm flows (qh caps flows ws) k/\qm flows (qh caps flows ws) k<=8*m:=by
 unfold qm
 refine qz hn.f1.2 (fun i hi=>?_) hm0
 obtain ⟨b,hb,_,_,_,h,_,h0⟩:=G7 hn hw hfit hi
 rw [D3 hb fun t ht hne=>?_]
 ·rw [show rt (qh caps flows ws) i b=_ from qS _ hi hb]
  have:=hm i b hi
  rcases GF hn hi hb k with e | ⟨e,_⟩<;>rw [e]<;>omega
 ·rw [show rt (qh caps flows ws) i t=_ from qS _ hi ht,h0 t hne]
  rcases GF hn hi ht k with e | ⟨e,_⟩<;>rw [e]
theorem nx_wt:Wt caps.length (nxL caps flows ws):=by
 refine ⟨qr _ _,fun k hk=>?_⟩
 unfold nxL
 rw [qu _ hk]
 unfold nxS
 have:=hw.bd k hk
 cases decide (caps.getD k 0 > 0) with
 | true=>rw [cond_true];omega
 | false=>exact this
end
theorem mn_wt {h:List Int} (h0:∀ k,k < h.length->0<=h.getD k 0):Wt h.length (mnL h):=by
 refine ⟨qr _ _,fun k hk=>?_⟩
 unfold mnL
 rw [qu _ hk]
 unfold mnS
 have h1:=maxL_ge (j6 hk 0)
 have h2:=h0 k hk
 have h3:Int.tdiv (h.getD k 0*1024) (max 1 (gi h))<=1024:=by
  rw [Int.tdiv_eq_ediv_of_nonneg (by omega)]
  have:h.getD k 0*1024 / max 1 (gi h) < 1025:=(Int.ediv_lt_iff_lt_mul (by omega)).2 (by omega)
  omega
 omega
structure Inv (caps:List Int) (flows:Fl) (k:Nat) (s:Stt):Prop where
 wt:Wt caps.length s.1
 rg:Rg caps flows (k*64000000000) s.2.1
 hl:s.2.2.1.length=caps.length
 hb:∀ j,j < caps.length->0<=s.2.2.1.getD j 0/\s.2.2.1.getD j 0<=k*1048576
 best:s.2.2.2=([],[],0)\/jK caps flows s.2.2.2
theorem KX {caps:List Int} {flows:Fl} {o:Bst} (h:jK caps flows o):qB caps flows=true/\jP flows o.1=true/\jI caps o.2.1=true/\Gs caps flows o.1 o.2.1=true/\o.2.2=max 0 (qV caps o.2.1 - 1000000*(flows.length:Int))/\o.2.2<=1000000000000:=by
 unfold jK gh at h
 cases h1:qB caps flows with
 | false=>rw [h1] at h;exact absurd (congrArg Prod.snd h) (show ¬ (1:Int)=0 by omega)
 | true=>
  cases h2:jP flows o.1 with
  | false=>rw [h1,h2] at h;exact absurd (congrArg Prod.snd h) (show ¬ (1:Int)=0 by omega)
  | true=>
   cases h3:jI caps o.2.1 with
   | false=>rw [h1,h2,h3] at h;exact absurd (congrArg Prod.snd h) (show ¬ (1:Int)=0 by omega)
   | true=>
    cases h4:Gs caps flows o.1 o.2.1 with
    | false=>rw [h1,h2,h3,h4] at h;exact absurd (congrArg Prod.snd h) (show ¬ (17:Int)=0 by omega)
    | true=>
     rw [h1,h2,h3,h4] at h
     simp only [Bool.and_self,cond_true] at h
     by_cases c:max 0 (qV caps o.2.1 - 1000000*(flows.length:Int))<=1000000000000
     ·rw [qd c] at h
      have:=congrArg Prod.fst h
      simp only at this
      exact ⟨rfl,rfl,rfl,rfl,by omega,by omega⟩
     ·rw [qg c] at h
      exact absurd (congrArg Prod.snd h) (show ¬ (3:Int)=0 by omega)
theorem Hn {caps:List Int} {flows:Fl} (hn:Nw caps flows) {o:Bst} (h:jK caps flows o):o.1.length=flows.length/\o.1.length≠0:=by
 obtain ⟨_,h2,_⟩:=KX h
 unfold jP at h2
 rw [Bool.and_eq_true] at h2
 have:=of_decide_eq_true h2.1
 have:=hn.f1
 omega
theorem qbo {caps:List Int} {flows:Fl} {o:Bst} {c:Cert} (ho:o=([],[],0)\/jK caps flows o) (hc:c.2.2.2=true->jK caps flows (c.1,c.2.1,c.2.2.1)):qI o c=([],[],0)\/jK caps flows (qI o c):=by
 unfold qI
 cases h:c.2.2.2 with
 | false=>exact ho
 | true=>
  cases decide (o.1.length=0) with
  | true=>exact .inr (hc h)
  | false=>
   cases decide (c.2.2.1 < o.2.2) with
   | true=>exact .inr (hc h)
   | false=>exact ho
theorem K9 {caps:List Int} {flows:Fl} (hn:Nw caps flows) {o:Bst} (c:Cert) (ho:jK caps flows o) (hc:c.2.2.2=true->jK caps flows (c.1,c.2.1,c.2.2.1)):jK caps flows (qI o c)/\(qI o c).2.2<=o.2.2:=by
 have hne:=(Hn hn ho).2
 unfold qI
 cases h:c.2.2.2 with
 | false=>exact ⟨ho,Int.le_refl _⟩
 | true=>
  rw [decide_eq_false hne]
  by_cases h2:c.2.2.1 < o.2.2
  ·rw [decide_eq_true h2];exact ⟨hc h,Int.le_of_lt h2⟩
  ·rw [decide_eq_false h2];exact ⟨ho,Int.le_refl _⟩
section
variable {caps : List Int} {flows : Fl} (hn : Nw caps flows) (hfit : Fit caps flows)
include hn hfit
theorem qem {k:Nat} {s:Stt} (h:Inv caps flows k s):Rg caps flows (((k+1:Nat):Int)*64000000000) (qT flows s.2.1 (qh caps flows s.1))/\Nz flows (qT flows s.2.1 (qh caps flows s.1)):=by
 have hnow:=gk hn h.wt hfit
 constructor
 ·refine JC (by omega) (fun i t hi ht=>?_) fun i t hi ht hne=>?_
  ·have h1:=h.rg.rate i t
   have h2:=hnow.rate i t
   omega
  ·by_cases c:rt s.2.1 i t=0
   ·exact hnow.us i t hi ht fun e=>hne (by omega)
   ·exact h.rg.us i t hi ht c
 ·obtain ⟨i,t,hi,ht,hp⟩:=gj hn h.wt hfit
  refine ⟨i,t,hi,ht,?_⟩
  unfold qT
  rw [qS _ hi ht]
  have:=(h.rg.rate i t).1
  omega
theorem qel {k:Nat} {s:Stt} (h:Inv caps flows k s):(qA s.2.2.1 s.1).length=caps.length/\∀ j,j < caps.length->0<=(qA s.2.2.1 s.1).getD j 0/\(qA s.2.2.1 s.1).getD j 0<=((k+1:Nat):Int)*1048576:=by
 refine ⟨by unfold qA;rw [qr,h.hl],fun j hj=>?_⟩
 unfold qA
 rw [qu _ (by rw [h.hl];exact hj)]
 have h1:=h.hb j hj
 have h2:=h.wt.bd j hj
 omega
theorem qex {k:Nat} {s:Stt} (h:Inv caps flows k s):Inv caps flows (k+1) (rdS caps flows s):=by
 obtain ⟨h1,h2⟩:=qem hn hfit h
 obtain ⟨h3,h4⟩:=qel hn hfit h
 exact ⟨nx_wt hn h.wt hfit,h1,h3,h4,qbo (qbo h.best qD) qD⟩
theorem qdc:∀ k,Inv caps flows k (stN caps flows k)
 | 0=>⟨jL _,JC (by omega) (fun _ _ _ _=>by omega) (fun _ _ _ _ h=>absurd rfl h),qr _ _,fun j hj=>by
   show 0<=(tab caps.length _).getD j 0/\(tab caps.length _).getD j 0<=_
   rw [qu _ hj];omega,.inl rfl⟩
 | k+1=>qex hn hfit (qdc k)
end
theorem qcg {caps:List Int} {flows:Fl} (hn:Nw caps flows) {prices:List Int} (hl:prices.length=caps.length) {p:Int} (hp:0<=p) (h:∀ k,k < caps.length->0<=prices.getD k 0*caps.getD k 0/\prices.getD k 0*caps.getD k 0<=p):0<=qV caps prices/\qV caps prices<=8*p:=by
 unfold qV
 exact qz (by rw [hl];exact hn.c1.2) (fun k hk=>h k (by omega)) hp
theorem qfg {caps:List Int} {flows:Fl} (hn:Nw caps flows) {i t:Nat} (hi:i < flows.length) (ht:t < (flows.getD i []).length):qq (pth flows i t) (w0L caps.length)=1024*((pth flows i t).length:Int):=by
 unfold qq
 rw [gm (g:=fun _=>1024) fun j hj=>?_,GG]
 ·exact Int.mul_comm _ _
 ·have hl:=hn.link i t j hi ht hj
  unfold w0L
  rw [qu _ (by omega)]
section
variable {caps : List Int} {flows : Fl} (hn : Nw caps flows) (hfit : Fit caps flows)
include hn hfit
theorem Gp {i:Nat} (hi:i < flows.length):∃ (b:Nat) (h:Int),b < (flows.getD i []).length/\qU caps (pth flows i b)=true/\(chS caps flows (w0L caps.length) i).1=(b:Int)/\h=((pth flows i b).length:Int)/\(1<=h/\h<=6)/\qs caps flows (w0L caps.length) i=1024*h/\jj caps flows (w0L caps.length) i b=1000000000 / h/\(166666666<=1000000000 / h/\1000000000 / h<=1000000000):=by
 obtain ⟨b,h1,h2,h3,h4,h5,h6,h7⟩:=G7 hn (jL _) hfit hi
 obtain ⟨b',g1,g2,g3,_⟩:=DS hn (jL _) hfit hi
 have hp:=hn.hop i b hi h1
 have e1:(chS caps flows (w0L caps.length) i).1=(b':Int):=congrArg Prod.fst g3
 have hbb:b'=b:=by omega
 subst hbb
 have e:qs caps flows (w0L caps.length) i=1024*((pth flows i b').length:Int):=(congrArg Prod.snd g3).trans (qfg hn hi h1)
 have hq:1024000000000 / (1024*((pth flows i b').length:Int))=1000000000 / ((pth flows i b').length:Int):=by
  show (1024*1000000000:Int) / _=_
  exact Int.mul_ediv_mul_of_pos (a:=1024) 1000000000 _ (by omega)
 have g4:166666666<=1000000000 / ((pth flows i b').length:Int):=(Int.le_ediv_iff_mul_le (by omega)).2 (by omega)
 have g5:1000000000 / ((pth flows i b').length:Int) < 1000000001:=(Int.ediv_lt_iff_lt_mul (by omega)).2 (by omega)
 refine ⟨b',_,h1,h2,e1,rfl,by omega,e,?_,g4,by omega⟩
 rw [h6,e,hq]
theorem qbi {i:Nat} (hi:i < flows.length):20833<=qo caps flows (qh caps flows (w0L caps.length)) i:=by
 have hw:=jL caps.length
 have hr:=gk hn hw hfit
 have hz:=gj hn hw hfit
 have hg:=gl hn hr hz
 obtain ⟨h1,h2,h3,h4,h5⟩:=GE hn hr hz
 obtain ⟨b,h,hb,_,_,_,hh,_,he,hv⟩:=Gp hn hfit hi
 have hld:=(now_ld hn hw hfit (m:=1000000000) (fun i t hi=>by
  obtain ⟨b,h,hb,_,hc,_,hh,_,he,hv⟩:=Gp hn hfit hi
  by_cases c:t=b
  ·rw [c,he];exact hv.2
  ·obtain ⟨b2,_,_,hc2,_,_,_,h0⟩:=G7 hn hw hfit hi
   rw [h0 t (by omega)];omega) (by omega) (tgS caps flows (qh caps flows (w0L caps.length)))).2
 have h6:rt (scR caps flows (qh caps flows (w0L caps.length))) i b=scS caps flows (qh caps flows (w0L caps.length)) i b:=qS _ hi hb
 have h7:rt (qh caps flows (w0L caps.length)) i b=1000000000 / h:=by rw [<- he];exact qS _ hi hb
 have h8:20833<=scS caps flows (qh caps flows (w0L caps.length)) i b:=by
  unfold scS
  rw [h7]
  refine (Int.le_ediv_iff_mul_le h3).2 ?_
  have:=Int.mul_le_mul (show 166666666<=1000000000 / h by omega) (show 1000000<=1000000*caps.getD (tgS caps flows (qh caps flows (w0L caps.length))) 0 by omega) (by omega) (by omega)
  omega
 have h9:=jY ((scR caps flows (qh caps flows (w0L caps.length))).getD i []).length (f:=fun t=>((scR caps flows (qh caps flows (w0L caps.length))).getD i []).getD t 0) (i:=b) (by rw [hg.rli i hi];exact hb) (fun t ht=>(hg.rate i t).1)
 have h10:qo caps flows (qh caps flows (w0L caps.length)) i=qn ((scR caps flows (qh caps flows (w0L caps.length))).getD i []).length fun t=>((scR caps flows (qh caps flows (w0L caps.length))).getD i []).getD t 0:=rfl
 have h11:rt (scR caps flows (qh caps flows (w0L caps.length))) i b=((scR caps flows (qh caps flows (w0L caps.length))).getD i []).getD b 0:=rfl
 omega
theorem jR:jS caps flows (qh caps flows (w0L caps.length))=true:=by
 unfold jS
 refine List.all_eq_true.2 fun i hi=>?_
 have:=qbi hn hfit (List.mem_range.1 hi)
 rw [qw,decide_eq_false (by omega)];rfl
theorem D2 {k:Nat} (hk:k < caps.length) (hc:caps.getD k 0≠0):0<=prS caps flows (w0L caps.length) (nmS caps flows (qh caps flows (w0L caps.length)) (w0L caps.length)) k/\prS caps flows (w0L caps.length) (nmS caps flows (qh caps flows (w0L caps.length)) (w0L caps.length)) k<=48001000:=by
 have hw:=jL caps.length
 have hr:=gk hn hw hfit
 have hz:=gj hn hw hfit
 refine ⟨qdW hn hw hfit hr hz (jR hn hfit) k,?_⟩
 obtain ⟨h1,h2,h3,b,hb,he⟩:=DU hn hw hfit hr hz (jR hn hfit)
 have ht:=qbi hn hfit hb
 obtain ⟨b',h,_,_,_,_,hh,hl,_⟩:=Gp hn hfit hb
 have hnd:qp (qo caps flows (qh caps flows (w0L caps.length)) b)<=48001000:=by
  unfold qp
  rw [Int.tdiv_eq_ediv_of_nonneg (by omega)]
  have:(1000000000000+qo caps flows (qh caps flows (w0L caps.length)) b - 1) / qo caps flows (qh caps flows (w0L caps.length)) b < 48001001:=(Int.ediv_lt_iff_lt_mul (by omega)).2 (by omega)
  omega
 have hn0:=(G6 (x:=qo caps flows (qh caps flows (w0L caps.length)) b) (by omega)).2.1
 unfold prS
 rw [show (caps.getD k 0==0)=false from by rw [qw];exact decide_eq_false hc,cond_false]
 cases decide (qm flows (qC flows) k > 0) with
 | false=>show (0:Int)<=_;omega
 | true=>
  rw [cond_true,he,hl]
  have hwk:(w0L caps.length).getD k 0=1024:=by unfold w0L;rw [qu _ hk]
  rw [hwk]
  simp only
  generalize qp (qo caps flows (qh caps flows (w0L caps.length)) b)=a at*
  rw [Int.tdiv_eq_ediv_of_nonneg (by omega)]
  have:(a*1024+1024*h - 1) / (1024*h) < a+1:=(Int.ediv_lt_iff_lt_mul (by omega)).2 (by
   have:a*1<=a*h:=Int.mul_le_mul_of_nonneg_left (by omega) (by omega)
   have e:(a+1)*(1024*h)=1024*(a*h)+1024*h:=by rw [Int.add_mul,Int.one_mul,<- Int.mul_assoc,Int.mul_comm a 1024,Int.mul_assoc]
   rw [e];omega)
  omega
theorem JL (hv:qB caps flows=true):(qx caps flows (qh caps flows (w0L caps.length)) (w0L caps.length)).2.2.2=true:=by
 have hw:=jL caps.length
 have hr:=gk hn hw hfit
 have hz:=gj hn hw hfit
 have hfull:=jR hn hfit
 unfold qx
 rw [hfull,cond_true]
 unfold gh
 have hP:∀ k,k < caps.length->(prL caps flows (w0L caps.length) (nmS caps flows (qh caps flows (w0L caps.length)) (w0L caps.length))).getD k 0=prS caps flows (w0L caps.length) (nmS caps flows (qh caps flows (w0L caps.length)) (w0L caps.length)) k:=fun k hk=>qu _ hk
 have hpl:(prL caps flows (w0L caps.length) (nmS caps flows (qh caps flows (w0L caps.length)) (w0L caps.length))).length=caps.length:=qr _ _
 have hPb:∀ k,k < caps.length->0<=(prL caps flows (w0L caps.length) (nmS caps flows (qh caps flows (w0L caps.length)) (w0L caps.length))).getD k 0/\(prL caps flows (w0L caps.length) (nmS caps flows (qh caps flows (w0L caps.length)) (w0L caps.length))).getD k 0<=1000000000000:=fun k hk=>by
  rw [hP k hk]
  by_cases c:caps.getD k 0=0
  ·unfold prS
   rw [c];exact ⟨show (0:Int)<=1000000000000 by omega,Int.le_refl _⟩
  ·have:=D2 hn hfit hk c
   omega
 have hp:jI caps (prL caps flows (w0L caps.length) (nmS caps flows (qh caps flows (w0L caps.length)) (w0L caps.length)))=true:=by
  unfold jI
  rw [Bool.and_eq_true]
  refine ⟨decide_eq_true hpl,?_⟩
  unfold upto
  rw [<- Gn _ (0:Int) fun n=>decide (0<=n/\n<=1000000000000)]
  exact List.all_eq_true.2 fun k hk=>decide_eq_true (hPb k (by have:=List.mem_range.1 hk;omega))
 have hcost:=qcg hn hpl (p:=48001000000) (by omega) (fun k hk=>by
  have hc:=hn.cap k
  rw [hP k hk]
  by_cases c:caps.getD k 0=0
  ·rw [c];simp
  ·have:=D2 hn hfit hk c
   refine ⟨Int.mul_nonneg this.1 hc.1,?_⟩
   have:=Int.mul_le_mul this.2 hc.2 hc.1 (by omega)
   omega)
 have hf:=hn.f1
 rw [hv,qfl hn hr hz,hp,qch hn hw hfit hr hz hfull]
 simp only [Bool.and_self,cond_true]
 rw [qd (show max 0 (qV caps (prL caps flows (w0L caps.length) (nmS caps flows (qh caps flows (w0L caps.length)) (w0L caps.length))) - 1000000*(flows.length:Int))<=1000000000000 by omega)]
 rfl
theorem H9 (hv:qB caps flows=true):∀ k,jK caps flows (stN caps flows (k+1)).2.2.2
 | 0=>by
  have h:=JL hn hfit hv
  have e:qI ([],[],0) (qx caps flows (qh caps flows (w0L caps.length)) (w0L caps.length))=((qx caps flows (qh caps flows (w0L caps.length)) (w0L caps.length)).1,(qx caps flows (qh caps flows (w0L caps.length)) (w0L caps.length)).2.1,(qx caps flows (qh caps flows (w0L caps.length)) (w0L caps.length)).2.2.1):=by
   unfold qI
   rw [h];rfl
  show jK caps flows (qI (qI ([],[],0) (qx caps flows (qh caps flows (w0L caps.length)) (w0L caps.length))) _)
  rw [e]
  exact (K9 hn _ (qD h) qD).1
 | k+1=>(K9 hn _ (K9 hn _ (H9 hv k) qD).1 qD).1
theorem best_le (hv:qB caps flows=true) (k:Nat):(stN caps flows (k+2)).2.2.2.2.2<=(stN caps flows (k+1)).2.2.2.2.2:=by
 have h0:=H9 hn hfit hv k
 have h1:=K9 hn (qx caps flows (qh caps flows (stN caps flows (k+1)).1) (stN caps flows (k+1)).1) h0 qD
 have h2:=K9 hn (qx caps flows (qT flows (stN caps flows (k+1)).2.1 (qh caps flows (stN caps flows (k+1)).1)) (mnL (qA (stN caps flows (k+1)).2.2.1 (stN caps flows (k+1)).1))) h1.1 qD
 exact Int.le_trans h2.2 h1.2
end
theorem Kg (c:Int):∀ n,(List.replicate n c).foldl max c=c
 | 0=>rfl
 | n+1=>by
  rw [List.replicate_succ,List.foldl_cons,show max c c=c by omega]
  exact Kg c n
theorem qfe (c:Int) (n:Nat):gi (List.replicate (n+1) c)=c:=by
 rw [List.replicate_succ];exact Kg c n
theorem qeo (n:Nat) (c:Int):tab n (fun _=>c)=List.replicate n c:=by
 apply List.ext_getElem?
 intro k
 by_cases hk:k < n<;>simp [tab,hk,List.getElem?_replicate]
def qv (caps:List Int) (flows:Fl):Cert:=qx caps flows (qh caps flows (w0L caps.length)) (w0L caps.length)
section
variable {caps : List Int} {flows : Fl} (hn : Nw caps flows) (hfit : Fit caps flows)
include hn hfit
theorem qap (hv:qB caps flows=true):(stN caps flows 1).2.2.2=((qv caps flows).1,(qv caps flows).2.1,(qv caps flows).2.2.1):=by
 have hc:=hn.c1
 have e1:qT flows (rtT flows fun _ _=>0) (qh caps flows (w0L caps.length))=qh caps flows (w0L caps.length):=by
  unfold qT
  refine (qej fun i t hi ht=>?_).trans (rfl:rtT flows (jj caps flows (w0L caps.length))=_)
  rw [qS _ hi ht,show rt (qh caps flows (w0L caps.length)) i t=jj caps flows (w0L caps.length) i t from qS _ hi ht];omega
 have e2:qA (tab caps.length fun _=>0) (w0L caps.length)=w0L caps.length:=by
  unfold qA w0L
  rw [qr]
  exact ql fun k hk=>by rw [qu _ hk,qu _ hk];omega
 have e3:mnL (w0L caps.length)=w0L caps.length:=by
  obtain ⟨n,hnn⟩:∃ n,caps.length=n+1:=⟨caps.length - 1,by omega⟩
  have em:gi (w0L caps.length)=1024:=by unfold w0L;rw [qeo,hnn,qfe]
  unfold mnL
  rw [show (w0L caps.length).length=caps.length from qr _ _]
  show tab caps.length (mnS (w0L caps.length))=tab caps.length fun _=>1024
  refine ql fun k hk=>?_
  unfold mnS
  rw [em,show (w0L caps.length).getD k 0=1024 from qu _ hk]
  decide
 have hok:=JL hn hfit hv
 have hr:=qD hok
 have hne:=(Hn hn hr).2
 show qI (qI ([],[],0) (qx caps flows (qh caps flows (w0L caps.length)) (w0L caps.length))) (qx caps flows (qT flows (rtT flows fun _ _=>0) (qh caps flows (w0L caps.length))) (mnL (qA (tab caps.length fun _=>0) (w0L caps.length))))=_
 rw [e1,e2,e3]
 have e4:qI ([],[],0) (qx caps flows (qh caps flows (w0L caps.length)) (w0L caps.length))=((qv caps flows).1,(qv caps flows).2.1,(qv caps flows).2.2.1):=by
  unfold qI qv
  rw [hok];rfl
 rw [e4]
 unfold qI
 rw [hok,cond_true,decide_eq_false (show ¬ ((qv caps flows).1,(qv caps flows).2.1,(qv caps flows).2.2.1).1.length=0 from hne),cond_false]
 exact qg (Int.lt_irrefl _) _ _
theorem qaY (hv:qB caps flows=true) (k:Nat):∀ j,(stN caps flows (k+j+1)).2.2.2.2.2<=(stN caps flows (k+1)).2.2.2.2.2
 | 0=>Int.le_refl _
 | j+1=>Int.le_trans (best_le hn hfit hv (k+j)) (qaY hv k j)
theorem qb4:(qv caps flows).1=scR caps flows (qh caps flows (w0L caps.length)):=by
 unfold qv qx
 rw [jR hn hfit];rfl
theorem qbI:(qv caps flows).2.1=prL caps flows (w0L caps.length) (nmS caps flows (qh caps flows (w0L caps.length)) (w0L caps.length)):=by
 unfold qv qx
 rw [jR hn hfit];rfl
theorem qdU (hv:qB caps flows=true):(qv caps flows).2.2.1=max 0 (qV caps (qv caps flows).2.1 - 1000000*(flows.length:Int))/\(qv caps flows).2.2.1<=1000000000000:=by
 have h:=KX (qD (JL hn hfit hv))
 exact ⟨h.2.2.2.2.1,h.2.2.2.2.2⟩
end
def qj (f:Nat):Fl:=List.replicate f [[0]]
theorem qbD {α:Type} (x d:α) {f i:Nat} (h:i < f):(List.replicate f x).getD i d=x:=by
 rw [List.getD_eq_getElem?_getD,List.getElem?_replicate,if_pos h];rfl
section
variable {C : Int} {f : Nat} (hC : 1 <= C /\ C <= 1000) (h1 : 1 <= f) (h8 : f <= 8)
include hC h1 h8
theorem Gr:qB [C] (qj f)=true:=by
 unfold qB
 rw [Bool.and_eq_true,Bool.and_eq_true,Bool.and_eq_true]
 refine ⟨rfl,decide_eq_true (by unfold qj;rw [List.length_replicate];omega),?_,List.all_eq_true.2 fun x hx=>?_⟩
 ·unfold qao
  rw [List.all_cons,decide_eq_true (show 0<=C/\C<=1000 by omega)];rfl
 ·unfold qj at hx
  rw [List.eq_of_mem_replicate hx];rfl
theorem qY {i:Nat} (hi:i < f):(qj f).getD i []=[[0]]:=qbD _ _ hi
theorem jk:(qj f).length=f:=List.length_replicate
theorem one_use {i:Nat} (hi:i < f):qU [C] (pth (qj f) i 0)=true:=by
 have e:pth (qj f) i 0=[0]:=by
  show ((qj f).getD i []).getD 0 []=_
  rw [qY hC h1 h8 hi];rfl
 rw [e]
 unfold qU
 rw [List.all_cons]
 show (!(C==0)&&true)=true
 rw [qw,decide_eq_false (by omega)];rfl
theorem GY:Fit [C] (qj f):=fun i hi=>by
 rw [jk hC h1 h8] at hi
 exact ⟨0,by rw [qY hC h1 h8 hi];decide,one_use hC h1 h8 hi⟩
theorem qb9 {i:Nat} (hi:i < f):jj [C] (qj f) (w0L 1) i 0=1000000000:=by
 have hn:=qas (Gr hC h1 h8)
 obtain ⟨b,h,hb,_,_,hh,hh2,_,he,_⟩:=Gp hn (GY hC h1 h8) (i:=i) (by rw [jk hC h1 h8];exact hi)
 rw [qY hC h1 h8 hi] at hb
 have hb0:b=0:=by simp at hb;omega
 subst hb0
 have e:pth (qj f) i 0=[0]:=by
  show ((qj f).getD i []).getD 0 []=_
  rw [qY hC h1 h8 hi];rfl
 rw [e] at hh
 have:h=1:=hh
 rw [this] at he
 exact he
theorem qff:qm (qj f) (qh [C] (qj f) (w0L 1)) 0=f*1000000000:=by
 unfold qm
 rw [jk hC h1 h8,gm (g:=fun _=>1000000000) fun i hi=>?_,GG]
 rw [qY hC h1 h8 hi]
 show (0:Int)+pk (pth (qj f) i 0) (rt (qh [C] (qj f) (w0L 1)) i 0) 0=_
 have e:pth (qj f) i 0=[0]:=by
  show ((qj f).getD i []).getD 0 []=_
  rw [qY hC h1 h8 hi];rfl
 rw [e,show rt (qh [C] (qj f) (w0L 1)) i 0=jj [C] (qj f) (w0L 1) i 0 from qS _ (by rw [jk hC h1 h8];exact hi) (by rw [qY hC h1 h8 hi];decide),qb9 hC h1 h8 hi]
 rfl
theorem one_sc {i:Nat} (hi:i < f):scS [C] (qj f) (qh [C] (qj f) (w0L 1)) i 0=1000000*C / f:=by
 have hn:=qas (Gr hC h1 h8)
 have hr:=gk hn (jL 1) (GY hC h1 h8)
 have hz:=gj hn (jL 1) (GY hC h1 h8)
 have ht:=(GE hn hr hz).2.1
 have ht0:tgS [C] (qj f) (qh [C] (qj f) (w0L 1))=0:=by simp at ht;omega
 unfold scS
 rw [ht0,qff hC h1 h8,show rt (qh [C] (qj f) (w0L 1)) i 0=jj [C] (qj f) (w0L 1) i 0 from qS _ (by rw [jk hC h1 h8];exact hi) (by rw [qY hC h1 h8 hi];decide),qb9 hC h1 h8 hi]
 show 1000000000*(1000000*C) / ((f:Int)*1000000000)=_
 rw [Int.mul_comm (f:Int)]
 exact Int.mul_ediv_mul_of_pos _ _ (by omega)
theorem qca {i:Nat} (hi:i < f):qo [C] (qj f) (qh [C] (qj f) (w0L 1)) i=1000000*C / f:=by
 unfold qo qE scR
 have hi':i < (qj f).length:=by rw [jk hC h1 h8];exact hi
 rw [DW _ hi',qr,qY hC h1 h8 hi]
 show (0:Int)+(tab 1 _).getD 0 0=_
 rw [qu _ (by omega),one_sc hC h1 h8 hi];omega
theorem qdT:125000<=1000000*C / f/\1000000*C<=f*(1000000*C / f)+f - 1/\f*(1000000*C / f)<=1000000*C:=by
 have h2:=Int.mul_ediv_add_emod (1000000*C) f
 have h3:=Int.emod_nonneg (1000000*C) (show (f:Int)≠0 by omega)
 have h4:=Int.emod_lt_of_pos (1000000*C) (show 0 < (f:Int) by omega)
 refine ⟨(Int.le_ediv_iff_mul_le (by omega)).2 (by omega),by omega,by omega⟩
theorem one_gap:(qv [C] (qj f)).2.2.1<=8*f+C:=by
 have hv:=Gr hC h1 h8
 have hn:=qas hv
 have hfit:=GY hC h1 h8
 have hr:=gk hn (jL 1) hfit
 have hz:=gj hn (jL 1) hfit
 obtain ⟨_,_,_,b,hb,he⟩:=DU hn (jL 1) hfit hr hz (jR hn hfit)
 rw [jk hC h1 h8] at hb
 obtain ⟨r1,r2,r3⟩:=qdT hC h1 h8
 obtain ⟨b',h,hb',_,_,hh,hh2,hl,_⟩:=Gp hn hfit (i:=b) (by rw [jk hC h1 h8];exact hb)
 have hl0:qs [C] (qj f) (w0L 1) b=1024:=by
  rw [qY hC h1 h8 hb] at hb'
  have hb0:b'=0:=by simp at hb';omega
  subst hb0
  have e:pth (qj f) b 0=[0]:=by
   show ((qj f).getD b []).getD 0 []=_
   rw [qY hC h1 h8 hb];rfl
  rw [e] at hh
  have:h=1:=hh
  rw [this] at hl
  exact hl
 rw [qca hC h1 h8 hb,hl0] at he
 have hnd:=G6 (x:=1000000*C / f) (by omega)
 have hnu:(qp (1000000*C / f) - 1)*(1000000*C / f)<=1000000000000 - 1:=by
  have h5:=(JA (p:=1000000*C / f) (x:=qp (1000000*C / f) - 1) (c:=1000000000000) (by omega) (by omega) (by omega)).1 (by unfold qp;omega)
  rw [Int.mul_comm] at h5
  omega
 have hP:(qv [C] (qj f)).2.1=[prS [C] (qj f) (w0L 1) (qp (1000000*C / f),1024) 0]:=by
  rw [qbI hn hfit]
  show prL [C] (qj f) (w0L 1) (nmS [C] (qj f) (qh [C] (qj f) (w0L 1)) (w0L 1))=_
  rw [he];rfl
 have hpr:0<=prS [C] (qj f) (w0L 1) (qp (1000000*C / f),1024) 0/\prS [C] (qj f) (w0L 1) (qp (1000000*C / f),1024) 0<=qp (1000000*C / f):=by
  unfold prS
  rw [show (([C]:List Int).getD 0 0==0)=false from by rw [qw];exact decide_eq_false (show ¬ C=0 by omega),cond_false]
  generalize qp (1000000*C / f)=a at*
  cases decide (qm (qj f) (qC (qj f)) 0 > 0) with
  | false=>exact ⟨Int.le_refl _,by show (0:Int)<=a;omega⟩
  | true=>
   rw [cond_true,show (w0L 1).getD 0 0=1024 from rfl]
   simp only
   rw [Int.tdiv_eq_ediv_of_nonneg (by omega)]
   omega
 have hg:=(qdU hn hfit hv).1
 have hcost:qV [C] (qv [C] (qj f)).2.1=prS [C] (qj f) (w0L 1) (qp (1000000*C / f),1024) 0*C:=by
  rw [hP]
  show (0:Int)+prS [C] (qj f) (w0L 1) (qp (1000000*C / f),1024) 0*C=_
  omega
 rw [hcost,jk hC h1 h8] at hg
 have hle:prS [C] (qj f) (w0L 1) (qp (1000000*C / f),1024) 0*C<=qp (1000000*C / f)*C:=Int.mul_le_mul_of_nonneg_right hpr.2 (by omega)
 have key:(qp (1000000*C / f) - 1)*C<=1000008*f:=by
  apply Int.le_of_not_gt
  intro hgt
  generalize qp (1000000*C / f) - 1=a at*
  generalize 1000000*C / f=r at*
  have k1:=Int.mul_le_mul_of_nonneg_right (show 1000008*(f:Int)+1<=a*C by omega) (show 0<=r by omega)
  have k2:=Int.mul_le_mul_of_nonneg_right hnu (show 0<=C by omega)
  have k3:a*C*r=a*r*C:=by rw [Int.mul_assoc,Int.mul_comm C,<- Int.mul_assoc]
  have k4:(1000008*(f:Int)+1)*r=1000008*(f*r)+r:=by rw [Int.add_mul,Int.mul_assoc,Int.one_mul]
  omega
 rw [Int.sub_mul,Int.one_mul] at key
 omega
end
section
variable {caps : List Int} {flows : Fl} (hn : Nw caps flows) {A R : List (List Int)} {P : List Int} {g : Int} {ws h : List Int}
include hn
theorem qey {i:Nat} (hi:i < flows.length) (f:Nat->Nat->Int) (hf:∀ i t:Nat,i < flows.length->t < (flows.getD i []).length->v32 (i:Int) (t:Int)=some (f i t)) (out:List (List Int)) :
  qJ FU (i:Int) flows (flows.length:Int) (i:Int) ((flows.getD i []).length:Int) 0 caps flows R P g ws h (List.replicate (flows.getD i []).length 0) out=some (tab (flows.getD i []).length (f i)):=by
 have h4:=hn.sub i hi
 have e:List.replicate (flows.getD i []).length (0:Int)=tab (flows.getD i []).length fun t=>if t < 0 then f i t else 0:=(qG _).trans (ql fun t _=>(if_neg (Nat.not_lt_zero t)).symm)
 rw [e]
 refine qt (m:=(flows.getD i []).length) (by omega) (fun n j (s:List Int)=>qJ n (i:Int) flows (flows.length:Int) (i:Int) ((flows.getD i []).length:Int) j caps flows R P g ws h s out)
  (fun j=>tab (flows.getD i []).length fun t=>if t < j then f i t else 0) (tab (flows.getD i []).length (f i)) (fun n j hj=>?_) fun n=>?_
 ·show qJ (n+1) _ _ _ _ _ _ _ _ _ _ _ _ _ _ _=qJ n _ _ _ _ _ _ _ _ _ _ _ _ _ _ _
  have hv:=hf i j hi hj
  rw [KH];unfold j9 ck;rw [qd (show (j:Int) < ((flows.getD i []).length:Int) by omega),up1 (by omega)]
  simp only [hv,qf,qe,cond_true,Int.toNat_natCast,qr]
  rw [qd (show (0:Int)<=(j:Int) by omega),qd (show (j:Int) < ((flows.getD i []).length:Int) by omega),qd hj,jl]
  congr 1
  exact ql fun t ht=>by
   by_cases c:t=j
   ·rw [if_pos c,if_pos (by omega),c]
   ·rw [if_neg c]
    by_cases c2:t < j
    ·rw [if_pos c2,if_pos (by omega)]
    ·rw [if_neg c2,if_neg (by omega)]
 ·show qJ (n+1) _ _ _ _ _ _ _ _ _ _ _ _ _ _ _=_
  rw [KH];unfold j9 ck;rw [qg (show ¬ ((flows.getD i []).length:Int) < ((flows.getD i []).length:Int) by omega)]
  exact congrArg some (ql fun t ht=>if_pos ht)
theorem v31_eq (f:Nat->Nat->Int) (hf:∀ i t:Nat,i < flows.length->t < (flows.getD i []).length->v32 (i:Int) (t:Int)=some (f i t)):v31 caps flows R P g ws h=some (rtT flows f):=by
 have hfl:=hn.f1
 have h0:jp FU flows (flows.length:Int) 0 caps flows R P g ws h []=some (rtT flows f):=by
  refine qt (m:=flows.length) (by omega) (fun n j (s:List (List Int))=>jp n flows (flows.length:Int) j caps flows R P g ws h s) (fun j=>(List.range j).map fun i=>tab (flows.getD i []).length (f i)) (rtT flows f) (fun n i hi=>?_) fun n=>?_
  ·show jp (n+1) _ _ _ _ _ _ _ _ _ _ _=jp n _ _ _ _ _ _ _ _ _ _ _
   have h4:=hn.sub i hi
   rw [SL];unfold gH ck;(repeat rewrite [obE]);rw [qd (show (i:Int) < (flows.length:Int) by omega),qd (show (0:Int)<=(i:Int) by omega),qd (show (i:Int) < (flows.length:Int) by omega),up1 (by omega)]
   simp only [Int.toNat_natCast,List.length_replicate]
   rw [qd (Int.le_refl _),qd (show ((flows.getD i []).length:Int)<=((2147483648:Nat):Int) by omega),qey hn hi f hf]
   simp only [qf,qe,cond_true,List.length_map,List.length_range,List.length_cons,List.length_nil]
   rw [qd (show i+(0+1)<=2147483648 by omega),List.range_succ,List.map_append]
   rfl
  ·show jp (n+1) _ _ _ _ _ _ _ _ _ _ _=_
   rw [SL];unfold gH ck;(repeat rewrite [obE]);rw [qg (show ¬ (flows.length:Int) < (flows.length:Int) by omega)]
   rfl
 unfold v31 tv31;(repeat rewrite [obE])
 rw [h0];rfl
theorem qez {i:Nat} (hi:i < flows.length) (f:Nat->Nat->Int) (hf:∀ i t:Nat,i < flows.length->t < (flows.getD i []).length->v55 (i:Int) (t:Int) caps flows A R P g ws h=some (f i t)) (out:List (List Int)) :
  qK FU (i:Int) flows (flows.length:Int) (i:Int) ((flows.getD i []).length:Int) 0 caps flows A R P g ws h (List.replicate (flows.getD i []).length 0) out=some (tab (flows.getD i []).length (f i)):=by
 have h4:=hn.sub i hi
 have e:List.replicate (flows.getD i []).length (0:Int)=tab (flows.getD i []).length fun t=>if t < 0 then f i t else 0:=(qG _).trans (ql fun t _=>(if_neg (Nat.not_lt_zero t)).symm)
 rw [e]
 refine qt (m:=(flows.getD i []).length) (by omega) (fun n j (s:List Int)=>qK n (i:Int) flows (flows.length:Int) (i:Int) ((flows.getD i []).length:Int) j caps flows A R P g ws h s out)
  (fun j=>tab (flows.getD i []).length fun t=>if t < j then f i t else 0) (tab (flows.getD i []).length (f i)) (fun n j hj=>?_) fun n=>?_
 ·show qK (n+1) _ _ _ _ _ _ _ _ _ _ _ _ _ _ _ _=qK n _ _ _ _ _ _ _ _ _ _ _ _ _ _ _ _
  have hv:=hf i j hi hj
  rw [KI];unfold ga ck;(repeat rewrite [obE]);rw [qd (show (j:Int) < ((flows.getD i []).length:Int) by omega),up1 (by omega)]
  simp only [hv,qf,qe,cond_true,Int.toNat_natCast,qr]
  rw [qd (show (0:Int)<=(j:Int) by omega),qd (show (j:Int) < ((flows.getD i []).length:Int) by omega),qd hj,jl]
  congr 1
  exact ql fun t ht=>by
   by_cases c:t=j
   ·rw [if_pos c,if_pos (by omega),c]
   ·rw [if_neg c]
    by_cases c2:t < j
    ·rw [if_pos c2,if_pos (by omega)]
    ·rw [if_neg c2,if_neg (by omega)]
 ·show qK (n+1) _ _ _ _ _ _ _ _ _ _ _ _ _ _ _ _=_
  rw [KI];unfold ga ck;(repeat rewrite [obE]);rw [qg (show ¬ ((flows.getD i []).length:Int) < ((flows.getD i []).length:Int) by omega)]
  exact congrArg some (ql fun t ht=>if_pos ht)
theorem qfn (f:Nat->Nat->Int) (hf:∀ i t:Nat,i < flows.length->t < (flows.getD i []).length->v55 (i:Int) (t:Int) caps flows A R P g ws h=some (f i t)):JR caps flows A R P g ws h=some (rtT flows f):=by
 have hfl:=hn.f1
 have h0:jq FU flows (flows.length:Int) 0 caps flows A R P g ws h []=some (rtT flows f):=by
  refine qt (m:=flows.length) (by omega) (fun n j (s:List (List Int))=>jq n flows (flows.length:Int) j caps flows A R P g ws h s) (fun j=>(List.range j).map fun i=>tab (flows.getD i []).length (f i)) (rtT flows f) (fun n i hi=>?_) fun n=>?_
  ·show jq (n+1) _ _ _ _ _ _ _ _ _ _ _ _=jq n _ _ _ _ _ _ _ _ _ _ _ _
   have h4:=hn.sub i hi
   rw [SM];unfold gI ck;(repeat rewrite [obE]);rw [qd (show (i:Int) < (flows.length:Int) by omega),qd (show (0:Int)<=(i:Int) by omega),qd (show (i:Int) < (flows.length:Int) by omega),up1 (by omega)]
   simp only [Int.toNat_natCast,List.length_replicate]
   rw [qd (Int.le_refl _),qd (show ((flows.getD i []).length:Int)<=((2147483648:Nat):Int) by omega),qez hn hi f hf]
   simp only [qf,qe,cond_true,List.length_map,List.length_range,List.length_cons,List.length_nil]
   rw [qd (show i+(0+1)<=2147483648 by omega),List.range_succ,List.map_append]
   rfl
  ·show jq (n+1) _ _ _ _ _ _ _ _ _ _ _ _=_
   rw [SM];unfold gI ck;(repeat rewrite [obE]);rw [qg (show ¬ (flows.length:Int) < (flows.length:Int) by omega)]
   rfl
 unfold JR qat;(repeat rewrite [obE])
 rw [h0];rfl
theorem qeA {now:List (List Int)} {i:Nat} (hi:i < flows.length) (f:Nat->Nat->Int) (hf:∀ i t:Nat,i < flows.length->t < (flows.getD i []).length->v57 (i:Int) (t:Int) caps flows A R P g ws h now=some (f i t)) (out:List (List Int)) :
  qL FU (i:Int) flows (flows.length:Int) (i:Int) ((flows.getD i []).length:Int) 0 caps flows A R P g ws h now (List.replicate (flows.getD i []).length 0) out=some (tab (flows.getD i []).length (f i)):=by
 have h4:=hn.sub i hi
 have e:List.replicate (flows.getD i []).length (0:Int)=tab (flows.getD i []).length fun t=>if t < 0 then f i t else 0:=(qG _).trans (ql fun t _=>(if_neg (Nat.not_lt_zero t)).symm)
 rw [e]
 refine qt (m:=(flows.getD i []).length) (by omega) (fun n j (s:List Int)=>qL n (i:Int) flows (flows.length:Int) (i:Int) ((flows.getD i []).length:Int) j caps flows A R P g ws h now s out)
  (fun j=>tab (flows.getD i []).length fun t=>if t < j then f i t else 0) (tab (flows.getD i []).length (f i)) (fun n j hj=>?_) fun n=>?_
 ·show qL (n+1) _ _ _ _ _ _ _ _ _ _ _ _ _ _ _ _ _=qL n _ _ _ _ _ _ _ _ _ _ _ _ _ _ _ _ _
  have hv:=hf i j hi hj
  rw [KJ];unfold gb ck;(repeat rewrite [obE]);rw [qd (show (j:Int) < ((flows.getD i []).length:Int) by omega),up1 (by omega)]
  simp only [hv,qf,qe,cond_true,Int.toNat_natCast,qr]
  rw [qd (show (0:Int)<=(j:Int) by omega),qd (show (j:Int) < ((flows.getD i []).length:Int) by omega),qd hj,jl]
  congr 1
  exact ql fun t ht=>by
   by_cases c:t=j
   ·rw [if_pos c,if_pos (by omega),c]
   ·rw [if_neg c]
    by_cases c2:t < j
    ·rw [if_pos c2,if_pos (by omega)]
    ·rw [if_neg c2,if_neg (by omega)]
 ·show qL (n+1) _ _ _ _ _ _ _ _ _ _ _ _ _ _ _ _ _=_
  rw [KJ];unfold gb ck;(repeat rewrite [obE]);rw [qg (show ¬ ((flows.getD i []).length:Int) < ((flows.getD i []).length:Int) by omega)]
  exact congrArg some (ql fun t ht=>if_pos ht)
theorem qfo {now:List (List Int)} (f:Nat->Nat->Int) (hf:∀ i t:Nat,i < flows.length->t < (flows.getD i []).length->v57 (i:Int) (t:Int) caps flows A R P g ws h now=some (f i t)):JS caps flows A R P g ws h now=some (rtT flows f):=by
 have hfl:=hn.f1
 have h0:jr FU flows (flows.length:Int) 0 caps flows A R P g ws h now []=some (rtT flows f):=by
  refine qt (m:=flows.length) (by omega) (fun n j (s:List (List Int))=>jr n flows (flows.length:Int) j caps flows A R P g ws h now s) (fun j=>(List.range j).map fun i=>tab (flows.getD i []).length (f i)) (rtT flows f) (fun n i hi=>?_) fun n=>?_
  ·show jr (n+1) _ _ _ _ _ _ _ _ _ _ _ _ _=jr n _ _ _ _ _ _ _ _ _ _ _ _ _
   have h4:=hn.sub i hi
   rw [SN];unfold gJ ck;(repeat rewrite [obE]);rw [qd (show (i:Int) < (flows.length:Int) by omega),qd (show (0:Int)<=(i:Int) by omega),qd (show (i:Int) < (flows.length:Int) by omega),up1 (by omega)]
   simp only [Int.toNat_natCast,List.length_replicate]
   rw [qd (Int.le_refl _),qd (show ((flows.getD i []).length:Int)<=((2147483648:Nat):Int) by omega),qeA hn hi f hf]
   simp only [qf,qe,cond_true,List.length_map,List.length_range,List.length_cons,List.length_nil]
   rw [qd (show i+(0+1)<=2147483648 by omega),List.range_succ,List.map_append]
   rfl
  ·show jr (n+1) _ _ _ _ _ _ _ _ _ _ _ _ _=_
   rw [SN];unfold gJ ck;(repeat rewrite [obE]);rw [qg (show ¬ (flows.length:Int) < (flows.length:Int) by omega)]
   rfl
 unfold JS qau;(repeat rewrite [obE])
 rw [h0];rfl
theorem qeB {rates:List (List Int)} {k:Int} {ld:List Int} {i:Nat} (hi:i < flows.length) (f:Nat->Nat->Int) (hf:∀ i t:Nat,i < flows.length->t < (flows.getD i []).length->v81 (i:Int) (t:Int) rates caps flows A R P g ws h k ld=some (f i t)) (out:List (List Int)) :
  qM FU (i:Int) flows (flows.length:Int) (i:Int) ((flows.getD i []).length:Int) 0 caps flows A R P g ws h rates k ld (List.replicate (flows.getD i []).length 0) out=some (tab (flows.getD i []).length (f i)):=by
 have h4:=hn.sub i hi
 have e:List.replicate (flows.getD i []).length (0:Int)=tab (flows.getD i []).length fun t=>if t < 0 then f i t else 0:=(qG _).trans (ql fun t _=>(if_neg (Nat.not_lt_zero t)).symm)
 rw [e]
 refine qt (m:=(flows.getD i []).length) (by omega) (fun n j (s:List Int)=>qM n (i:Int) flows (flows.length:Int) (i:Int) ((flows.getD i []).length:Int) j caps flows A R P g ws h rates k ld s out)
  (fun j=>tab (flows.getD i []).length fun t=>if t < j then f i t else 0) (tab (flows.getD i []).length (f i)) (fun n j hj=>?_) fun n=>?_
 ·show qM (n+1) _ _ _ _ _ _ _ _ _ _ _ _ _ _ _ _ _ _ _=qM n _ _ _ _ _ _ _ _ _ _ _ _ _ _ _ _ _ _ _
  have hv:=hf i j hi hj
  rw [KK];unfold gd ck;(repeat rewrite [obE]);rw [qd (show (j:Int) < ((flows.getD i []).length:Int) by omega),up1 (by omega)]
  simp only [hv,qf,qe,cond_true,Int.toNat_natCast,qr]
  rw [qd (show (0:Int)<=(j:Int) by omega),qd (show (j:Int) < ((flows.getD i []).length:Int) by omega),qd hj,jl]
  congr 1
  exact ql fun t ht=>by
   by_cases c:t=j
   ·rw [if_pos c,if_pos (by omega),c]
   ·rw [if_neg c]
    by_cases c2:t < j
    ·rw [if_pos c2,if_pos (by omega)]
    ·rw [if_neg c2,if_neg (by omega)]
 ·show qM (n+1) _ _ _ _ _ _ _ _ _ _ _ _ _ _ _ _ _ _ _=_
  rw [KK];unfold gd ck;(repeat rewrite [obE]);rw [qg (show ¬ ((flows.getD i []).length:Int) < ((flows.getD i []).length:Int) by omega)]
  exact congrArg some (ql fun t ht=>if_pos ht)
theorem qbZ {rates:List (List Int)} {k:Int} {ld:List Int} (f:Nat->Nat->Int) (hf:∀ i t:Nat,i < flows.length->t < (flows.getD i []).length->v81 (i:Int) (t:Int) rates caps flows A R P g ws h k ld=some (f i t)):GU caps flows A R P g ws h rates k ld=some (rtT flows f):=by
 have hfl:=hn.f1
 have h0:js FU flows (flows.length:Int) 0 caps flows A R P g ws h rates k ld []=some (rtT flows f):=by
  refine qt (m:=flows.length) (by omega) (fun n j (s:List (List Int))=>js n flows (flows.length:Int) j caps flows A R P g ws h rates k ld s) (fun j=>(List.range j).map fun i=>tab (flows.getD i []).length (f i)) (rtT flows f) (fun n i hi=>?_) fun n=>?_
  ·show js (n+1) _ _ _ _ _ _ _ _ _ _ _ _ _ _ _=js n _ _ _ _ _ _ _ _ _ _ _ _ _ _ _
   have h4:=hn.sub i hi
   rw [SO];unfold gK ck;(repeat rewrite [obE]);rw [qd (show (i:Int) < (flows.length:Int) by omega),qd (show (0:Int)<=(i:Int) by omega),qd (show (i:Int) < (flows.length:Int) by omega),up1 (by omega)]
   simp only [Int.toNat_natCast,List.length_replicate]
   rw [qd (Int.le_refl _),qd (show ((flows.getD i []).length:Int)<=((2147483648:Nat):Int) by omega),qeB hn hi f hf]
   simp only [qf,qe,cond_true,List.length_map,List.length_range,List.length_cons,List.length_nil]
   rw [qd (show i+(0+1)<=2147483648 by omega),List.range_succ,List.map_append]
   rfl
  ·show js (n+1) _ _ _ _ _ _ _ _ _ _ _ _ _ _ _=_
   rw [SO];unfold gK ck;(repeat rewrite [obE]);rw [qg (show ¬ (flows.length:Int) < (flows.length:Int) by omega)]
   rfl
 unfold GU qav;(repeat rewrite [obE])
 rw [h0];rfl
theorem qeC {i:Nat} (hi:i < flows.length) (f:Nat->Nat->Int) (hf:∀ i t:Nat,i < flows.length->t < (flows.getD i []).length->v83 (i:Int) (t:Int)=some (f i t)) (out:List (List Int)) :
  qN FU (i:Int) flows (flows.length:Int) (i:Int) ((flows.getD i []).length:Int) 0 caps flows A R P g ws h (List.replicate (flows.getD i []).length 0) out=some (tab (flows.getD i []).length (f i)):=by
 have h4:=hn.sub i hi
 have e:List.replicate (flows.getD i []).length (0:Int)=tab (flows.getD i []).length fun t=>if t < 0 then f i t else 0:=(qG _).trans (ql fun t _=>(if_neg (Nat.not_lt_zero t)).symm)
 rw [e]
 refine qt (m:=(flows.getD i []).length) (by omega) (fun n j (s:List Int)=>qN n (i:Int) flows (flows.length:Int) (i:Int) ((flows.getD i []).length:Int) j caps flows A R P g ws h s out)
  (fun j=>tab (flows.getD i []).length fun t=>if t < j then f i t else 0) (tab (flows.getD i []).length (f i)) (fun n j hj=>?_) fun n=>?_
 ·show qN (n+1) _ _ _ _ _ _ _ _ _ _ _ _ _ _ _ _=qN n _ _ _ _ _ _ _ _ _ _ _ _ _ _ _ _
  have hv:=hf i j hi hj
  rw [KL];unfold ge ck;rw [qd (show (j:Int) < ((flows.getD i []).length:Int) by omega),up1 (by omega)]
  simp only [hv,qf,qe,cond_true,Int.toNat_natCast,qr]
  rw [qd (show (0:Int)<=(j:Int) by omega),qd (show (j:Int) < ((flows.getD i []).length:Int) by omega),qd hj,jl]
  congr 1
  exact ql fun t ht=>by
   by_cases c:t=j
   ·rw [if_pos c,if_pos (by omega),c]
   ·rw [if_neg c]
    by_cases c2:t < j
    ·rw [if_pos c2,if_pos (by omega)]
    ·rw [if_neg c2,if_neg (by omega)]
 ·show qN (n+1) _ _ _ _ _ _ _ _ _ _ _ _ _ _ _ _=_
  rw [KL];unfold ge ck;rw [qg (show ¬ ((flows.getD i []).length:Int) < ((flows.getD i []).length:Int) by omega)]
  exact congrArg some (ql fun t ht=>if_pos ht)
theorem qb0 (f:Nat->Nat->Int) (hf:∀ i t:Nat,i < flows.length->t < (flows.getD i []).length->v83 (i:Int) (t:Int)=some (f i t)):GV caps flows A R P g ws h=some (rtT flows f):=by
 have hfl:=hn.f1
 have h0:jt FU flows (flows.length:Int) 0 caps flows A R P g ws h []=some (rtT flows f):=by
  refine qt (m:=flows.length) (by omega) (fun n j (s:List (List Int))=>jt n flows (flows.length:Int) j caps flows A R P g ws h s) (fun j=>(List.range j).map fun i=>tab (flows.getD i []).length (f i)) (rtT flows f) (fun n i hi=>?_) fun n=>?_
  ·show jt (n+1) _ _ _ _ _ _ _ _ _ _ _ _=jt n _ _ _ _ _ _ _ _ _ _ _ _
   have h4:=hn.sub i hi
   rw [SP];unfold gL ck;(repeat rewrite [obE]);rw [qd (show (i:Int) < (flows.length:Int) by omega),qd (show (0:Int)<=(i:Int) by omega),qd (show (i:Int) < (flows.length:Int) by omega),up1 (by omega)]
   simp only [Int.toNat_natCast,List.length_replicate]
   rw [qd (Int.le_refl _),qd (show ((flows.getD i []).length:Int)<=((2147483648:Nat):Int) by omega),qeC hn hi f hf]
   simp only [qf,qe,cond_true,List.length_map,List.length_range,List.length_cons,List.length_nil]
   rw [qd (show i+(0+1)<=2147483648 by omega),List.range_succ,List.map_append]
   rfl
  ·show jt (n+1) _ _ _ _ _ _ _ _ _ _ _ _=_
   rw [SP];unfold gL ck;(repeat rewrite [obE]);rw [qg (show ¬ (flows.length:Int) < (flows.length:Int) by omega)]
   rfl
 unfold GV qaw;(repeat rewrite [obE])
 rw [h0];rfl
theorem qcd {m:Int} (hm:0<=m) {rates:List (List Int)} {cq:List Int} (hr:Rg cq flows m rates) {i j:Nat} (hi:i < flows.length) (hj:j<=(flows.getD i []).length) (k:Nat):0<=qn j (fun t=>pk (pth flows i t) (rt rates i t) k)/\qn j (fun t=>pk (pth flows i t) (rt rates i t) k)<=4*m:=
 qz (m:=4) (by have:=(hn.sub i hi).2;omega) (fun t ht=>by
  have:=hr.rate i t
  rcases GF hn hi (show t < (flows.getD i []).length by omega) k with h | ⟨h,_⟩<;>rw [h]<;>omega) hm
theorem all_bd2 {m:Int} (hm:0<=m) {rates:List (List Int)} {cq:List Int} (hr:Rg cq flows m rates) {i:Nat} (hi:i<=flows.length) (k:Nat):0<=qn i (fun q=>qn (flows.getD q []).length fun t=>pk (pth flows q t) (rt rates q t) k)/\qn i (fun q=>qn (flows.getD q []).length fun t=>pk (pth flows q t) (rt rates q t) k)<=8*(4*m):=
 qz (m:=8) (by have:=hn.f1.2;omega) (fun q hq=>qcd hn hm hr (by omega) (Nat.le_refl _) k) (by omega)
theorem l60_32 {rates:List (List Int)} {m:Int} (hm:0<=m/\m<=65000000000000) {cq:List Int} (hr:Rg cq flows m rates) {i t:Nat} (hi:i < flows.length) (ht:t < (flows.getD i []).length) (f:Nat->Int) (hf:∀ k,0<=f k/\f k<=3000000000000000) :
  jb FU rates (i:Int) (t:Int) flows (flows.length:Int) (i:Int) (flows.getD i []) ((flows.getD i []).length:Int) (t:Int) (pth flows i t) ((pth flows i t).length:Int) 0 caps flows A R P g ws h (tab caps.length f)=some (tab caps.length fun k=>f k+pk (pth flows i t) (rt rates i t) k):=by
 have hl:=hn.hop i t hi ht
 have hrl:=hr.rli i hi
 have hrt:=hr.rate i t
 have hrr:=hr.rl
 have:=qt (m:=(pth flows i t).length) (by omega) (fun n j (s:List Int)=>jb n rates (i:Int) (t:Int) flows (flows.length:Int) (i:Int) (flows.getD i []) ((flows.getD i []).length:Int) (t:Int) (pth flows i t) ((pth flows i t).length:Int) j caps flows A R P g ws h s)
  (fun j=>tab caps.length fun k=>f k+qn j fun t'=>cond ((pth flows i t).getD t' 0==(k:Int)) (rt rates i t) 0) (tab caps.length fun k=>f k+pk (pth flows i t) (rt rates i t) k) (fun n j hj=>?_) fun n=>?_
 ·simp only [qn,Int.add_zero] at this
  exact this
 ·show jb (n+1) _ _ _ _ _ _ _ _ _ _ _ _ _ _ _ _ _ _ _ _ _=jb n _ _ _ _ _ _ _ _ _ _ _ _ _ _ _ _ _ _ _ _ _
  have hk:=hn.link i t j hi ht hj
  obtain ⟨p,hp⟩:∃ p:Nat,(pth flows i t).getD j 0=(p:Int):=⟨Int.toNat ((pth flows i t).getD j 0),by omega⟩
  have hpc:p < caps.length:=by omega
  rw [KS];unfold Gy ck;rw [qd (show (j:Int) < ((pth flows i t).length:Int) by omega),qd (show (0:Int)<=(j:Int) by omega),qd (show (j:Int) < ((pth flows i t).length:Int) by omega),up1 (by omega)]
  simp only [Int.toNat_natCast,hp,qr]
  rw [qd (show (0:Int)<=(p:Int) by omega),qd (show (p:Int) < (caps.length:Int) by omega),qd hpc,qd (show (0:Int)<=(i:Int) by omega),qd (show (i:Int) < (rates.length:Int) by omega),qd (show (0:Int)<=(t:Int) by omega),qd (show (t:Int) < ((rates.getD i []).length:Int) by omega),qu _ hpc,jl]
  congr 1
  apply ql
  intro k hkc
  have hb:=qz (n:=j) (m:=6) (f:=fun t'=>cond ((pth flows i t).getD t' 0==(p:Int)) (rt rates i t) 0) (c:=65000000000000) (by omega) (fun t' _=>by
   cases ((pth flows i t).getD t' 0==(p:Int)) with
   | true=>exact ⟨hrt.1,by show rt rates i t<=_;omega⟩
   | false=>exact ⟨Int.le_refl _,by show (0:Int)<=_;omega⟩) (by omega)
  have hfp:=hf p
  rw [qcb,hp]
  by_cases hkp:k=p
  ·subst hkp
   have e:(rates.getD i []).getD t 0=rt rates i t:=rfl
   rw [if_pos rfl,e,qi (by omega) (by omega),beq_self_eq_true,cond_true]
   omega
  ·rw [if_neg hkp,show ((p:Int)==(k:Int))=false from beq_false_of_ne (by omega),cond_false,Int.add_zero]
 ·show jb (n+1) _ _ _ _ _ _ _ _ _ _ _ _ _ _ _ _ _ _ _ _ _=_
  rw [KS];unfold Gy ck;rw [qg (show ¬ ((pth flows i t).length:Int) < ((pth flows i t).length:Int) by omega)]
  rfl
theorem l60_16 {rates:List (List Int)} {m:Int} (hm:0<=m/\m<=65000000000000) {cq:List Int} (hr:Rg cq flows m rates) {i:Nat} (hi:i < flows.length) :
  ja FU rates (i:Int) flows (flows.length:Int) (i:Int) (flows.getD i []) ((flows.getD i []).length:Int) 0 caps flows A R P g ws h (Ld caps flows rates i 0)=some (Ld caps flows rates i (flows.getD i []).length):=by
 have h4:=hn.sub i hi
 refine qt (m:=(flows.getD i []).length) (by omega) (fun n j (s:List Int)=>ja n rates (i:Int) flows (flows.length:Int) (i:Int) (flows.getD i []) ((flows.getD i []).length:Int) j caps flows A R P g ws h s)
  (fun j=>Ld caps flows rates i j) (Ld caps flows rates i (flows.getD i []).length) (fun n j hj=>?_) fun n=>?_
 ·show ja (n+1) _ _ _ _ _ _ _ _ _ _ _ _ _ _ _ _ _=ja n _ _ _ _ _ _ _ _ _ _ _ _ _ _ _ _ _
  have e:=l60_32 hn (A:=A) (R:=R) (P:=P) (g:=g) (ws:=ws) (h:=h) hm hr hi hj (fun k=>qn i (fun q=>qn (flows.getD q []).length fun t=>pk (pth flows q t) (rt rates q t) k)+qn j fun t=>pk (pth flows i t) (rt rates i t) k) (fun k=>by
   have h1:=qcd hn hm.1 hr hi (Nat.le_of_lt hj) k
   have h2:=all_bd2 hn hm.1 hr (Nat.le_of_lt hi) k
   omega)
  have e2:(tab caps.length fun k=>qn i (fun q=>qn (flows.getD q []).length fun t=>pk (pth flows q t) (rt rates q t) k)+qn j (fun t=>pk (pth flows i t) (rt rates i t) k)+pk (pth flows i j) (rt rates i j) k)=Ld caps flows rates i (j+1):=ql fun k hk=>by
   simp only [qn];omega
  rw [KR];unfold gg ck;(repeat rewrite [obE]);rw [qd (show (j:Int) < ((flows.getD i []).length:Int) by omega),qd (show (0:Int)<=(j:Int) by omega),qd (show (j:Int) < ((flows.getD i []).length:Int) by omega),up1 (by omega)]
  simp only [Int.toNat_natCast]
  rw [show Ld caps flows rates i j=tab caps.length _ from rfl,e,e2]
  rfl
 ·show ja (n+1) _ _ _ _ _ _ _ _ _ _ _ _ _ _ _ _ _=_
  rw [KR];unfold gg ck;(repeat rewrite [obE]);rw [qg (show ¬ ((flows.getD i []).length:Int) < ((flows.getD i []).length:Int) by omega)]
theorem Da {rates:List (List Int)} {m:Int} (hm:0<=m/\m<=65000000000000) {cq:List Int} (hr:Rg cq flows m rates):v60 rates caps flows A R P g ws h=some (ldL caps flows rates):=by
 have hf:=hn.f1
 have hc:=hn.c1
 have e1:List.replicate caps.length (0:Int)=Ld caps flows rates 0 0:=qG _
 have e3:Ld caps flows rates flows.length 0=ldL caps flows rates:=ql fun k _=>Int.add_zero _
 have h0:jx FU rates flows (flows.length:Int) 0 caps flows A R P g ws h (Ld caps flows rates 0 0)=some (Ld caps flows rates flows.length 0):=by
  refine qt (m:=flows.length) (by omega) (fun n j (s:List Int)=>jx n rates flows (flows.length:Int) j caps flows A R P g ws h s) (fun j=>Ld caps flows rates j 0) (Ld caps flows rates flows.length 0) (fun n i hi=>?_) fun n=>?_
  ·show jx (n+1) _ _ _ _ _ _ _ _ _ _ _ _ _=jx n _ _ _ _ _ _ _ _ _ _ _ _ _
   rw [SZ];unfold gP ck;(repeat rewrite [obE]);rw [qd (show (i:Int) < (flows.length:Int) by omega),qd (show (0:Int)<=(i:Int) by omega),qd (show (i:Int) < (flows.length:Int) by omega),up1 (by omega)]
   simp only [Int.toNat_natCast]
   rw [l60_16 hn hm hr hi]
   simp only [cond_true,qf,qe]
   rw [qb6]
  ·show jx (n+1) _ _ _ _ _ _ _ _ _ _ _ _ _=_
   rw [SZ];unfold gP ck;(repeat rewrite [obE]);rw [qg (show ¬ (flows.length:Int) < (flows.length:Int) by omega)]
 unfold v60 tv60;(repeat rewrite [obE])
 rw [Int.toNat_natCast,e1,h0,qd (Int.le_refl _),qd (show (caps.length:Int)<=((2147483648:Nat):Int) by omega),e3]
 rfl
theorem qb3 {ld:List Int} (hl:ld.length=caps.length) (hb:∀ k,0<=ld.getD k 0/\ld.getD k 0<=3000000000000000):v61 ld caps flows A R P g ws h=some (tgN caps ld caps.length):=by
 have hc:=hn.c1
 have h0:jy FU ld (-1) ld (ld.length:Int) 0 caps flows A R P g ws h=some (tgN caps ld caps.length):=by
  refine qt (m:=caps.length) (by omega) (fun n j (s:Int)=>jy n ld s ld (ld.length:Int) j caps flows A R P g ws h) (tgN caps ld) (tgN caps ld caps.length) (fun n k hk=>?_) fun n=>?_
  ·show jy (n+1) _ _ _ _ _ _ _ _ _ _ _ _ _=jy n _ (tgF caps ld k (tgN caps ld k)) _ _ _ _ _ _ _ _ _ _ _
   have hs:=Hr caps ld k
   rw [Ha];unfold Jd ck;rw [qd (show (k:Int) < (ld.length:Int) by omega),qd (show (0:Int)<=(k:Int) by omega),qd (show (k:Int) < (ld.length:Int) by omega),up1 (by omega)]
   simp only [Int.toNat_natCast]
   unfold tgF
   by_cases c:ld.getD k 0 > 0
   ·rw [qd c,qd c]
    rcases hs with ⟨h1,_⟩ | ⟨b,h1,h2,_,_⟩
    ·rw [h1,qd (show (-1:Int) < 0 by omega),qd (show (-1:Int) < 0 by omega)]
    ·have hb1:=hb k
     have hb2:=hb b
     have hc1:=hn.cap k
     have hc2:=hn.cap b
     have p1:=Int.mul_le_mul hc1.2 hb2.2 hb2.1 (by omega)
     have p2:=Int.mul_le_mul hc2.2 hb1.2 hb1.1 (by omega)
     have p3:=Int.mul_nonneg hc1.1 hb2.1
     have p4:=Int.mul_nonneg hc2.1 hb1.1
     rw [h2,qg (show ¬ (b:Int) < 0 by omega),qg (show ¬ (b:Int) < 0 by omega),qd (show (k:Int) < (caps.length:Int) by omega),qd (show (0:Int)<=(b:Int) by omega),qd (show (b:Int) < (ld.length:Int) by omega),qd (show (b:Int) < (caps.length:Int) by omega),Int.toNat_natCast]
     have w1:wI (caps.getD k 0*ld.getD b 0)=caps.getD k 0*ld.getD b 0:=qi (by omega) (by omega)
     have w2:wI (caps.getD b 0*ld.getD k 0)=caps.getD b 0*ld.getD k 0:=qi (by omega) (by omega)
     simp only [w1,w2]
     cases decide (caps.getD k 0*ld.getD b 0 < caps.getD b 0*ld.getD k 0)<;>rfl
   ·rw [qg c,qg c]
  ·show jy (n+1) _ _ _ _ _ _ _ _ _ _ _ _ _=_
   rw [Ha];unfold Jd ck;rw [qg (show ¬ (caps.length:Int) < (ld.length:Int) by omega)]
 unfold v61 tv61;(repeat rewrite [obE])
 rw [h0];rfl
end
theorem qeu {l:List Int} (hl:l.length<=20) (hb:∀ k,0<=l.getD k 0/\l.getD k 0<=1000000000):v82 l=some (qE l):=by
 have h0:jH FU 0 l (l.length:Int) 0=some (qE l):=by
  refine qt (m:=l.length) (by omega) (fun n j (s:Int)=>jH n s l (l.length:Int) j) (fun j=>qn j fun t=>l.getD t 0) (qE l) (fun n j hj=>?_) fun n=>?_
  ·show jH (n+1) _ _ _ _=jH n _ _ _ _
   have hb1:=qz (n:=j+1) (m:=20) (f:=fun t=>l.getD t 0) (c:=1000000000) (by omega) (fun t _=>hb t) (by omega)
   have hs:qn (j+1) (fun t=>l.getD t 0)=qn j (fun t=>l.getD t 0)+l.getD j 0:=rfl
   rw [Hm];unfold Ga ck;rw [qd (show (j:Int) < (l.length:Int) by omega),qd (show (0:Int)<=(j:Int) by omega),qd (show (j:Int) < (l.length:Int) by omega),up1 (by omega),Int.toNat_natCast,<- hs,qi (by omega) (by omega)]
  ·show jH (n+1) _ _ _ _=_
   rw [Hm];unfold Ga ck;rw [qg (show ¬ (l.length:Int) < (l.length:Int) by omega)]
   rfl
 unfold v82 tv82;(repeat rewrite [obE])
 rw [h0];rfl
theorem v59_eq {l:List Int} (h0:1<=l.length) (h1:l.length<=20):v59 l=some (gi l):=by
 cases l with
 | nil=>simp at h0
 | cons a l=>
  have hll:l.length<=20:=by simp at h1;omega
  have key:∀ (k n i:Nat) (s:Int),i+k=l.length->k < n->GW n (a::l) s ((i+1:Nat):Int)=some ((l.drop i).foldl max s):=by
   intro k
   induction k with
   | zero=>
    intro n i s h1 h2
    cases n with
    | zero=>omega
    | succ n=>
     rw [SY];unfold Jc;rw [qg (show ¬ ((i+1:Nat):Int) < ((a::l).length:Int) by simp only [List.length_cons];omega),List.drop_eq_nil_of_le (by omega)]
     rfl
   | succ k ih=>
    intro n i s h1 h2
    cases n with
    | zero=>omega
    | succ n=>
     rw [SY];unfold Jc;rw [qd (show ((i+1:Nat):Int) < ((a::l).length:Int) by simp only [List.length_cons];omega),qd (show (0:Int)<=((i+1:Nat):Int) by omega),up1 (by omega)]
     simp only [Int.toNat_natCast]
     rw [ih n (i+1) _ (by omega) (by omega),qbk (i:=i) (by omega) 0]
     rfl
  have h:=key l.length FU 0 a (by omega) (by unfold FU;omega)
  unfold v59 tv59;(repeat rewrite [obE])
  rw [show (a::l).getD (Int.toNat 0) 0=a from rfl,show (1:Int)=((0+1:Nat):Int) from rfl,h,qg (show ¬ ((a::l).length:Int) < ((0+1:Nat):Int) by simp only [List.length_cons];omega),qd (show (0:Int) < ((a::l).length:Int) by simp only [List.length_cons];omega)]
  rfl
theorem qbn {m:Nat} (hm:m<=9223372036854775807) {σ:Type} (F:Nat->Int->σ->Option (Bool ⊕ σ)) (g:Nat->σ) (z:Nat->Bool)
  (step:∀ n i,i < m->F (n+1) (i:Int) (g i)=cond (z i) (some (.inl false)) (F n ((i+1:Nat):Int) (g (i+1)))) (fin:∀ n,F (n+1) (m:Int) (g m)=some (.inr (g m))) :
  F FU 0 (g 0)=some (cond ((List.range m).all fun i=>!z i) (.inr (g m)) (.inl false)):=by
 have key:∀ k i n,i+k=m->k < n->F n (i:Int) (g i)=some (cond ((List.range m).all fun j=>decide (j < i)||!z j) (.inr (g m)) (.inl false)):=by
  intro k
  induction k with
  | zero=>
   intro i n h1 h2
   cases n with
   | zero=>omega
   | succ n=>
    have e:((List.range m).all fun j=>decide (j < i)||!z j)=true:=List.all_eq_true.2 fun j hj=>by
     have:=List.mem_range.1 hj
     rw [decide_eq_true (show j < i by omega)];rfl
    rw [e,show i=m by omega,fin];rfl
  | succ k ih=>
   intro i n h1 h2
   cases n with
   | zero=>omega
   | succ n=>
    rw [step n i (by omega)]
    cases hz:z i with
    | true=>
     have e:((List.range m).all fun j=>decide (j < i)||!z j)=false:=List.all_eq_false.2 ⟨i,List.mem_range.2 (by omega),by rw [hz,decide_eq_false (Nat.lt_irrefl i)];decide⟩
     rw [e];rfl
    | false=>
     rw [cond_false,ih (i+1) n (by omega) (by omega)]
     have e:(fun j=>decide (j < i+1)||!z j)=fun j=>decide (j < i)||!z j:=by
      funext j
      by_cases c:j=i
      ·rw [c,hz,decide_eq_true (show i < i+1 by omega)];simp
      ·by_cases c2:j < i
       ·rw [decide_eq_true c2,decide_eq_true (show j < i+1 by omega)]
       ·rw [decide_eq_false c2,decide_eq_false (show ¬ j < i+1 by omega)]
     rw [e]
 have h:=key m 0 FU (by omega) (by unfold FU;omega)
 have e:(fun j=>decide (j < 0)||!z j)=fun j=>!z j:=by
  funext j
  rw [decide_eq_false (Nat.not_lt_zero j)];rfl
 rw [e] at h
 exact h
theorem SH {x:Int} (hx:0<=x):0<=qp x/\qp x<=1000000000000:=by
 by_cases c:x=0
 ·subst c
  unfold qp
  rw [Int.tdiv_zero];omega
 ·have:=G6 (x:=x) (by omega)
  omega
theorem qbF {x l:Nat->Int} {m:Nat} (hx:∀ i,i < m->0<=x i) (hl:∀ i,i < m->1<=l i/\l i<=6291456):∀ j,j<=m->(0<=(nmN x l j).1/\(nmN x l j).1<=1000000000000)/\(1<=(nmN x l j).2/\(nmN x l j).2<=6291456)
 | 0,_=>⟨⟨Int.le_refl _,by show (0:Int)<=_;omega⟩,⟨Int.le_refl _,by show (1:Int)<=_;omega⟩⟩
 | j+1,hj=>by
  have ih:=qbF hx hl j (by omega)
  have h1:=SH (hx j (by omega))
  have h2:=hl j (by omega)
  show (0<=(nmF (x j) (l j) (nmN x l j)).1/\(nmF (x j) (l j) (nmN x l j)).1<=_)/\(1<=(nmF (x j) (l j) (nmN x l j)).2/\(nmF (x j) (l j) (nmN x l j)).2<=_)
  unfold nmF
  cases decide ((nmN x l j).1*l j < qp (x j)*(nmN x l j).2) with
  | true=>exact ⟨h1,h2⟩
  | false=>exact ih
theorem DX {caps:List Int} {flows:Fl} (hn:Nw caps flows) {m:Int} {rates:List (List Int)} (hr:Rg caps flows m rates) (hz:Nz flows rates) {i:Nat} (hi:i < flows.length):0<=qo caps flows rates i/\qo caps flows rates i<=4000000000:=by
 have hg:=gl hn hr hz
 have h3:=qz (n:=((scR caps flows rates).getD i []).length) (m:=4) (f:=fun t=>((scR caps flows rates).getD i []).getD t 0) (c:=1000000000) (by rw [hg.rli i hi];exact (hn.sub i hi).2) (fun t ht=>hg.rate i t) (by omega)
 have h4:qo caps flows rates i=qn ((scR caps flows rates).getD i []).length fun t=>((scR caps flows rates).getD i []).getD t 0:=rfl
 omega
theorem qcT {caps:List Int} {flows:Fl} (hn:Nw caps flows) {rates:List (List Int)} {prices:List Int} (h1:rates.length=flows.length) (h2:∀ i,i < flows.length->(rates.getD i []).length=(flows.getD i []).length) (h3:prices.length<=20):Few caps flows rates prices:=by
 have hf:=hn.f1
 have hc:=hn.c1
 refine ⟨by omega,by omega,by omega,h3,fun i=>?_,fun i k=>?_,fun i=>?_⟩
 ·by_cases hi:i < flows.length
  ·have:=hn.sub i hi;omega
  ·rw [out3 (by omega)];simp
 ·by_cases hi:i < flows.length
  ·by_cases hk:k < (flows.getD i []).length
   ·have:=hn.hop i k hi hk
    show (pth flows i k).length<=20
    omega
   ·rw [out2 (f:=flows.getD i []) (by omega)];simp
  ·rw [out3 (by omega)];simp
 ·by_cases hi:i < flows.length
  ·have:=hn.sub i hi
   rw [h2 i hi];omega
  ·rw [out2 (by omega)];simp
section
variable {caps : List Int} {flows : Fl} (hn : Nw caps flows) {A R : List (List Int)} {P : List Int} {g : Int} {ws h : List Int}
include hn
theorem qfp {w:List Int} (hw:Wt caps.length w) {i:Nat} (hi:i < flows.length):DY (i:Int) w caps flows A R P g ws h=some (chS caps flows w i):=by
 have h4:=hn.sub i hi
 have h0:jv FU w (-1) 0 (flows.getD i []) ((flows.getD i []).length:Int) 0 caps flows A R P g ws h=some (chS caps flows w i):=by
  refine qt (m:=(flows.getD i []).length) (by omega) (fun n j (s:Int×Int)=>jv n w s.1 s.2 (flows.getD i []) ((flows.getD i []).length:Int) j caps flows A R P g ws h)
   (chN caps (flows.getD i []) w) (chS caps flows w i) (fun n j hj=>?_) fun n=>?_
  ·show jv (n+1) _ _ _ _ _ _ _ _ _ _ _ _ _ _=jv n _ (chF caps (flows.getD i []) w j (chN caps (flows.getD i []) w j)).1 (chF caps (flows.getD i []) w j (chN caps (flows.getD i []) w j)).2 _ _ _ _ _ _ _ _ _ _ _
   have hp:=hn.hop i j hi hj
   rw [SS];unfold gN ck;(repeat rewrite [obE]);rw [qd (show (j:Int) < ((flows.getD i []).length:Int) by omega),qd (show (0:Int)<=(j:Int) by omega),qd (show (j:Int) < ((flows.getD i []).length:Int) by omega),up1 (by omega)]
   have e1:=qes (l:=(flows.getD i []).getD j []) (w:=w) (show (pth flows i j).length<=20 by omega) (fun x hx=>by rw [hw.len];exact hn.link i j x hi hj hx) (fun k=>by have:=hw.nn k;omega)
   have e2:=qet (l:=(flows.getD i []).getD j []) (caps:=caps) (show (pth flows i j).length<=20 by omega) (fun x hx=>hn.link i j x hi hj hx) (flows:=flows) (A:=A) (R:=R) (P:=P) (g:=g) (w:=ws) (h:=h)
   simp only [Int.toNat_natCast,e1,e2,qf,qe,cond_true]
   unfold chF
   cases qU caps ((flows.getD i []).getD j []) with
   | false=>rfl
   | true=>
    simp only [cond_true]
    cases decide ((chN caps (flows.getD i []) w j).1 < 0) with
    | true=>rfl
    | false=>cases decide (qq ((flows.getD i []).getD j []) w < (chN caps (flows.getD i []) w j).2)<;>rfl
  ·show jv (n+1) _ _ _ _ _ _ _ _ _ _ _ _ _ _=_
   rw [SS];unfold gN ck;(repeat rewrite [obE]);rw [qg (show ¬ ((flows.getD i []).length:Int) < ((flows.getD i []).length:Int) by omega)]
 unfold DY qax ck;(repeat rewrite [obE])
 rw [qd (show (0:Int)<=(i:Int) by omega),qd (show (i:Int) < (flows.length:Int) by omega),Int.toNat_natCast,h0]
 rfl
theorem l75_0_0 (hw:Wt caps.length ws) (hfit:Fit caps flows) {m:Int} (hm:0<=m/\m<=65000000000000) {rates:List (List Int)} (hr:Rg caps flows m rates) (hz:Nz flows rates) {a b:Int} {c e:List Int} {d:List (List Int)} :
  qW FU 0 1 (scR caps flows rates) ((scR caps flows rates).length:Int) 0 a (scR caps flows rates) b caps flows A R P g ws h c d e=some (cond (jS caps flows rates) (.inr (nmS caps flows rates ws)) (.inl false)):=by
 have hg:=gl hn hr hz
 have hf:=hn.f1
 have hx:∀ i,i < flows.length->0<=qo caps flows rates i:=fun i hi=>(DX hn hr hz hi).1
 have hl:∀ i,i < flows.length->1<=qs caps flows ws i/\qs caps flows ws i<=6291456:=fun i hi=>by
  obtain ⟨b,_,_,_,_,_,h⟩:=DS hn hw hfit hi
  omega
 refine qbn (m:=flows.length) (by omega) (fun n i (s:Int×Int)=>qW n s.1 s.2 (scR caps flows rates) ((scR caps flows rates).length:Int) i a (scR caps flows rates) b caps flows A R P g ws h c d e) (nmN (qo caps flows rates) (qs caps flows ws)) (fun i=>qo caps flows rates i==0) (fun n i hi=>?_) fun n=>?_
 ·show qW (n+1) _ _ _ _ _ _ _ _ _ _ _ _ _ _ _ _ _ _ _=cond _ _ (qW n (nmF (qo caps flows rates i) (qs caps flows ws i) (nmN (qo caps flows rates) (qs caps flows ws) i)).1 (nmF (qo caps flows rates i) (qs caps flows ws i) (nmN (qo caps flows rates) (qs caps flows ws) i)).2 _ _ _ _ _ _ _ _ _ _ _ _ _ _ _ _ _)
  have hrl:=hg.rl
  have hri:=hg.rli i hi
  have h4:=hn.sub i hi
  have e1:v82 ((scR caps flows rates).getD i [])=some (qo caps flows rates i):=qeu (by omega) (fun k=>hg.rate i k)
  have e2:=qb1 hn hw hi (A:=A) (R:=R) (P:=P) (g:=g) (h:=h)
  have hnb:=qbF hx hl i (by omega)
  have hxi:=DX hn hr hz hi
  have hli:=hl i hi
  have hni:=SH hxi.1
  rw [Hc];unfold gR ck;(repeat rewrite [obE]);rw [qd (show (i:Int) < ((scR caps flows rates).length:Int) by omega),qd (show (0:Int)<=(i:Int) by omega),qd (show (i:Int) < ((scR caps flows rates).length:Int) by omega),up1 (by omega)]
  simp only [Int.toNat_natCast,e1,e2,qf,qe,cond_true]
  by_cases c0:qo caps flows rates i=0
  ·rw [show (qo caps flows rates i==0)=true from by rw [qw];exact decide_eq_true c0];rfl
  rw [show (qo caps flows rates i==0)=false from by rw [qw];exact decide_eq_false c0,cond_false,cond_false,qd (show qo caps flows rates i≠0 from c0)]
  have el:(chS caps flows ws i).2=qs caps flows ws i:=rfl
  have w1:wI (1000000000000+qo caps flows rates i)=1000000000000+qo caps flows rates i:=qi (by omega) (by omega)
  have w2:wI (1000000000000+qo caps flows rates i - 1)=1000000000000+qo caps flows rates i - 1:=qi (by omega) (by omega)
  have w3:wI (Int.tdiv (1000000000000+qo caps flows rates i - 1) (qo caps flows rates i))=qp (qo caps flows rates i):=qi (x:=qp (qo caps flows rates i)) (by omega) (by omega)
  have p1:=Int.mul_le_mul hnb.1.2 hli.2 (by omega) (by omega)
  have p2:=Int.mul_nonneg hnb.1.1 (show 0<=qs caps flows ws i by omega)
  have p3:=Int.mul_le_mul hni.2 hnb.2.2 (by omega) (by omega)
  have p4:=Int.mul_nonneg hni.1 (show 0<=(nmN (qo caps flows rates) (qs caps flows ws) i).2 by omega)
  have w4:wI ((nmN (qo caps flows rates) (qs caps flows ws) i).1*qs caps flows ws i)=(nmN (qo caps flows rates) (qs caps flows ws) i).1*qs caps flows ws i:=qi (by omega) (by omega)
  have w5:wI (qp (qo caps flows rates i)*(nmN (qo caps flows rates) (qs caps flows ws) i).2)=qp (qo caps flows rates i)*(nmN (qo caps flows rates) (qs caps flows ws) i).2:=qi (by omega) (by omega)
  simp only [el,w1,w2,w3,w4,w5]
  unfold nmF
  cases decide ((nmN (qo caps flows rates) (qs caps flows ws) i).1*qs caps flows ws i < qp (qo caps flows rates i)*(nmN (qo caps flows rates) (qs caps flows ws) i).2)<;>rfl
 ·show qW (n+1) _ _ _ _ _ _ _ _ _ _ _ _ _ _ _ _ _ _ _=_
  have hrl:=hg.rl
  rw [Hc];unfold gR ck;(repeat rewrite [obE]);rw [qg (show ¬ (flows.length:Int) < ((scR caps flows rates).length:Int) by omega)]
theorem qeD (hw:Wt caps.length ws) {s:Int×Int} (hs1:0<=s.1/\s.1<=1000000000000) (hs2:1<=s.2/\s.2<=6291456) {a b:Int} {c d:List (List Int)} {e:List Int} :
  jc FU s.1 s.2 (ldL caps flows (qC flows)) caps (caps.length:Int) 0 a c b caps flows A R P g ws h (List.replicate caps.length 0) d e=some (prL caps flows ws s):=by
 have hc:=hn.c1
 have e0:List.replicate caps.length (0:Int)=tab caps.length fun t=>if t < 0 then prS caps flows ws s t else 0:=(qG _).trans (ql fun t _=>(if_neg (Nat.not_lt_zero t)).symm)
 rw [e0]
 refine qt (m:=caps.length) (by omega) (fun n j (l:List Int)=>jc n s.1 s.2 (ldL caps flows (qC flows)) caps (caps.length:Int) j a c b caps flows A R P g ws h l d e)
  (fun j=>tab caps.length fun t=>if t < j then prS caps flows ws s t else 0) (prL caps flows ws s) (fun n j hj=>?_) fun n=>?_
 ·show jc (n+1) _ _ _ _ _ _ _ _ _ _ _ _ _ _ _ _ _ _ _ _=jc n _ _ _ _ _ _ _ _ _ _ _ _ _ _ _ _ _ _ _ _
  have hld:(ldL caps flows (qC flows)).length=caps.length:=qr _ _
  have hlg:(ldL caps flows (qC flows)).getD j 0=qm flows (qC flows) j:=qu _ hj
  have hwl:=hw.len
  have hwj:=hw.bd j hj
  have put:∀ x:Int,x=prS caps flows ws s j->(tab caps.length fun t=>if t < j then prS caps flows ws s t else 0).set j x=tab caps.length fun t=>if t < j+1 then prS caps flows ws s t else 0:=fun x hx=>by
   rw [jl]
   exact ql fun t ht=>by
    by_cases c:t=j
    ·rw [if_pos c,if_pos (by omega),c];exact hx
    ·rw [if_neg c]
     by_cases c2:t < j
     ·rw [if_pos c2,if_pos (by omega)]
     ·rw [if_neg c2,if_neg (by omega)]
  rw [KT];unfold GA ck;rw [qd (show (j:Int) < (caps.length:Int) by omega),qd (show (0:Int)<=(j:Int) by omega),qd (show (j:Int) < (caps.length:Int) by omega),up1 (by omega)]
  simp only [Int.toNat_natCast,qr,hld,hlg]
  by_cases c1:caps.getD j 0=0
  ·rw [show (caps.getD j 0==0)=true from by rw [qw];exact decide_eq_true c1,cond_true,qd (show (j:Int) < (caps.length:Int) by omega),qd hj,put _ (by unfold prS;rw [c1];rfl)]
  rw [show (caps.getD j 0==0)=false from by rw [qw];exact decide_eq_false c1,cond_false,qd (show (j:Int) < (caps.length:Int) by omega)]
  by_cases c2:qm flows (qC flows) j > 0
  ·have p1:=Int.mul_le_mul hs1.2 hwj.2 (by omega) (by omega)
   have p2:=Int.mul_nonneg hs1.1 (show 0<=ws.getD j 0 by omega)
   have w1:wI (s.1*ws.getD j 0)=s.1*ws.getD j 0:=qi (by omega) (by omega)
   have w2:wI (s.1*ws.getD j 0+s.2)=s.1*ws.getD j 0+s.2:=qi (by omega) (by omega)
   have w3:wI (s.1*ws.getD j 0+s.2 - 1)=s.1*ws.getD j 0+s.2 - 1:=qi (by omega) (by omega)
   have q0:0<=Int.tdiv (s.1*ws.getD j 0+s.2 - 1) s.2:=Int.tdiv_nonneg (by omega) (by omega)
   have q1:Int.tdiv (s.1*ws.getD j 0+s.2 - 1) s.2<=s.1*ws.getD j 0+s.2 - 1:=by
    rw [Int.tdiv_eq_ediv_of_nonneg (by omega)]
    exact Int.ediv_le_self _ (by omega)
   have w4:wI (Int.tdiv (s.1*ws.getD j 0+s.2 - 1) s.2)=Int.tdiv (s.1*ws.getD j 0+s.2 - 1) s.2:=qi (by omega) (by omega)
   rw [qd c2,qd (show (j:Int) < (ws.length:Int) by omega),qd (show j < ws.length by omega),qd (show s.2≠0 by omega),qd (show (j:Int) < (caps.length:Int) by omega),qd hj,w1,w2,w3,w4,
    put _ (by unfold prS;rw [show (caps.getD j 0==0)=false from by rw [qw];exact decide_eq_false c1,cond_false,qd c2])]
  ·rw [qg c2]
   congr 1
   exact ql fun t ht=>by
    by_cases c:t=j
    ·rw [c,if_neg (Nat.lt_irrefl j),if_pos (by omega)]
     unfold prS
     rw [show (caps.getD j 0==0)=false from by rw [qw];exact decide_eq_false c1,cond_false,qg c2]
    ·by_cases c3:t < j
     ·rw [if_pos c3,if_pos (by omega)]
     ·rw [if_neg c3,if_neg (by omega)]
 ·show jc (n+1) _ _ _ _ _ _ _ _ _ _ _ _ _ _ _ _ _ _ _ _=_
  rw [KT];unfold GA ck;rw [qg (show ¬ (caps.length:Int) < (caps.length:Int) by omega)]
  exact congrArg some (ql fun t ht=>if_pos ht)
theorem v75_eq (hw:Wt caps.length ws) (hfit:Fit caps flows) {m:Int} (hm:0<=m/\m<=65000000000000) {rates:List (List Int)} (hr:Rg caps flows m rates) (hz:Nz flows rates):v75 rates caps flows A R P g ws h=some (qx caps flows rates ws):=by
 have hc:=hn.c1
 have hg:=gl hn hr hz
 have ht:=GE hn hr hz
 have e60:v60 rates caps flows A R P g ws h=some (ldL caps flows rates):=Da hn hm hr
 have hld:(ldL caps flows rates).length=caps.length:=qr _ _
 have hlb:∀ k,0<=(ldL caps flows rates).getD k 0/\(ldL caps flows rates).getD k 0<=3000000000000000:=fun k=>by
  by_cases hk:k < caps.length
  ·rw [show (ldL caps flows rates).getD k 0=qm flows rates k from qu _ hk]
   have:=qbA hn hm.1 hr k
   omega
  ·rw [out1 (by omega)];omega
 have e61:v61 (ldL caps flows rates) caps flows A R P g ws h=some (tgS caps flows rates:Int):=by rw [qb3 hn hld hlb,ht.1]
 have hcl:∀ i t:Nat,i < flows.length->t < (flows.getD i []).length->v81 (i:Int) (t:Int) rates caps flows A R P g ws h (tgS caps flows rates:Int) (ldL caps flows rates)=some (scS caps flows rates i t):=fun i t hi ht'=>by
  have hrl:=hr.rl
  have hri:=hr.rli i hi
  have hrt:=hr.rate i t
  have hcp:=hn.cap (tgS caps flows rates)
  have hlt:=hlb (tgS caps flows rates)
  have hlg:(ldL caps flows rates).getD (tgS caps flows rates) 0=qm flows rates (tgS caps flows rates):=qu _ ht.2.1
  have hsc:=qbL hn hr hz hi ht'
  unfold v81 tv81 ck;(repeat rewrite [obE])
  rw [qd (show (0:Int)<=(i:Int) by omega),qd (show (i:Int) < (rates.length:Int) by omega),qd (show (0:Int)<=(t:Int) by omega)]
  simp only [Int.toNat_natCast,hld]
  rw [qd (show (t:Int) < ((rates.getD i []).length:Int) by omega),qd (show (0:Int)<=(tgS caps flows rates:Int) by omega),qd (show (tgS caps flows rates:Int) < (caps.length:Int) by omega),qd (show (tgS caps flows rates:Int) < (caps.length:Int) by omega),hlg]
  have w1:wI (1000000*caps.getD (tgS caps flows rates) 0)=1000000*caps.getD (tgS caps flows rates) 0:=qi (by omega) (by omega)
  have hv:v56 (rt rates i t) (1000000*caps.getD (tgS caps flows rates) 0) (qm flows rates (tgS caps flows rates))=some (scS caps flows rates i t):=qb2 hrt.1 (by omega) (by omega) (by omega) ht.2.2.1 (by omega) (by
   have e:rt rates i t*(1000000*caps.getD (tgS caps flows rates) 0) / qm flows rates (tgS caps flows rates)=scS caps flows rates i t:=rfl
   omega)
  rw [w1,show (rates.getD i []).getD t 0=rt rates i t from rfl,hv]
  rfl
 have e31:GU caps flows A R P g ws h rates (tgS caps flows rates:Int) (ldL caps flows rates)=some (scR caps flows rates):=qbZ hn (scS caps flows rates) hcl
 have e314:GV caps flows A R P g ws h=some (qC flows):=qb0 hn (fun _ _=>1) (fun _ _ _ _=>rfl)
 have hone:v60 (qC flows) caps flows A R P g ws h=some (ldL caps flows (qC flows)):=by
  have hq:Rg (tab 8 fun _=>1) flows 1 (qC flows):=JC (by omega) (fun _ _ _ _=>by omega) (fun i t hi ht _=>use_iff.2 fun j hj=>by
   have:=hn.link i t j hi ht hj
   rw [qu _ (by omega)];decide)
  exact Da hn (m:=1) (by omega) hq
 have h36:gz 0 0 caps flows A R P g ws h (ldL caps flows rates) rates (tgS caps flows rates:Int) [] (List.replicate caps.length 0) [] []=some (cond (jS caps flows rates) ((gh caps flows (scR caps flows rates) (prL caps flows ws (nmS caps flows rates ws))).2==0,scR caps flows rates,(gh caps flows (scR caps flows rates) (prL caps flows ws (nmS caps flows rates ws))).1,prL caps flows ws (nmS caps flows rates ws)) (false,scR caps flows rates,0,List.replicate caps.length 0)):=by
  unfold gz Jq;(repeat rewrite [obE])
  rw [e31]
  simp only [qf,qe,cond_true]
  unfold G3 Js;(repeat rewrite [obE])
  rw [l75_0_0 hn hw hfit hm hr hz]
  cases hfull:jS caps flows rates with
  | false=>rfl
  | true=>
   have hb:=DU hn hw hfit hr hz hfull
   have e16:=qeD hn hw hb.1 hb.2.1 (A:=A) (R:=R) (P:=P) (g:=g) (h:=h) (a:=0) (b:=0) (c:=scR caps flows rates) (d:=[]) (e:=[])
   have hfew:Few caps flows (scR caps flows rates) (prL caps flows ws (nmS caps flows rates ws)):=qcT hn hg.rl hg.rli (by unfold prL;rw [qr];omega)
   rw [e314]
   simp only [cond_true,DT,JM,qf,qe,cond_false]
   rw [hone]
   simp only [qf,qe,cond_true]
   unfold Gl GS;(repeat rewrite [obE])
   rw [e16]
   simp only [qf,qe,cond_true]
   unfold jN gn;(repeat rewrite [obE])
   rw [qeq hfew]
   rfl
 unfold v75 tv75;(repeat rewrite [obE])
 rw [e60]
 simp only [qf,qe,cond_true]
 rw [e61]
 simp only [qf,qe,cond_true,Int.toNat_natCast]
 rw [h36,qd (Int.le_refl _),qd (show (caps.length:Int)<=((2147483648:Nat):Int) by omega)]
 unfold qx
 cases jS caps flows rates with
 | true=>rfl
 | false=>rw [qG];rfl
theorem v58_eq (hw:Wt caps.length ws) (hfit:Fit caps flows) {m:Int} (hm:0<=m/\m<=65000000000000) {rates:List (List Int)} (hr:Rg caps flows m rates) (hz:Nz flows rates):v58 rates caps flows A R P g ws h=some (qI (R,P,g) (qx caps flows rates ws)):=by
 unfold v58 tv58;(repeat rewrite [obE])
 rw [v75_eq hn hw hfit hm hr hz]
 have e:((R.length:Int)==0)=decide (R.length=0):=by
  rw [qw]
  apply decide_eq_decide.2
  omega
 simp only [qf,qe,cond_true,e]
 unfold qI
 cases (qx caps flows rates ws).2.2.2 with
 | false=>rfl
 | true=>
  cases decide (R.length=0) with
  | true=>rfl
  | false=>
   simp only [cond_true,cond_false]
   by_cases c:(qx caps flows rates ws).2.2.1 < g
   ·exact (qd c _ _).trans (congrArg some (qd c _ _).symm)
   ·exact (qg c _ _).trans (congrArg some (qg c _ _).symm)
theorem l75_0_1 {w:List Int} (hw:Wt caps.length w) (hfit:Fit caps flows) {m:Int} (hm:0<=m/\m<=65000000000000) {rates:List (List Int)} (hr:Rg caps flows m rates) (hz:Nz flows rates) {a b:Int} {c e:List Int} {d:List (List Int)} :
  qX FU w 0 1 (scR caps flows rates) ((scR caps flows rates).length:Int) 0 a (scR caps flows rates) b caps flows A R P g ws h c d e=some (cond (jS caps flows rates) (.inr (nmS caps flows rates w)) (.inl false)):=by
 have hg:=gl hn hr hz
 have hf:=hn.f1
 have hx:∀ i,i < flows.length->0<=qo caps flows rates i:=fun i hi=>(DX hn hr hz hi).1
 have hl:∀ i,i < flows.length->1<=qs caps flows w i/\qs caps flows w i<=6291456:=fun i hi=>by
  obtain ⟨b,_,_,_,_,_,h⟩:=DS hn hw hfit hi
  omega
 refine qbn (m:=flows.length) (by omega) (fun n i (s:Int×Int)=>qX n w s.1 s.2 (scR caps flows rates) ((scR caps flows rates).length:Int) i a (scR caps flows rates) b caps flows A R P g ws h c d e) (nmN (qo caps flows rates) (qs caps flows w)) (fun i=>qo caps flows rates i==0) (fun n i hi=>?_) fun n=>?_
 ·show qX (n+1) _ _ _ _ _ _ _ _ _ _ _ _ _ _ _ _ _ _ _ _=cond _ _ (qX n _ (nmF (qo caps flows rates i) (qs caps flows w i) (nmN (qo caps flows rates) (qs caps flows w) i)).1 (nmF (qo caps flows rates i) (qs caps flows w i) (nmN (qo caps flows rates) (qs caps flows w) i)).2 _ _ _ _ _ _ _ _ _ _ _ _ _ _ _ _ _)
  have hrl:=hg.rl
  have hri:=hg.rli i hi
  have h4:=hn.sub i hi
  have e1:v82 ((scR caps flows rates).getD i [])=some (qo caps flows rates i):=qeu (by omega) (fun k=>hg.rate i k)
  have e2:=qfp hn hw hi (A:=A) (R:=R) (P:=P) (g:=g) (ws:=ws) (h:=h)
  have hnb:=qbF hx hl i (by omega)
  have hxi:=DX hn hr hz hi
  have hli:=hl i hi
  have hni:=SH hxi.1
  rw [Hd];unfold gS ck;(repeat rewrite [obE]);rw [qd (show (i:Int) < ((scR caps flows rates).length:Int) by omega),qd (show (0:Int)<=(i:Int) by omega),qd (show (i:Int) < ((scR caps flows rates).length:Int) by omega),up1 (by omega)]
  simp only [Int.toNat_natCast,e1,e2,qf,qe,cond_true]
  by_cases c0:qo caps flows rates i=0
  ·rw [show (qo caps flows rates i==0)=true from by rw [qw];exact decide_eq_true c0];rfl
  rw [show (qo caps flows rates i==0)=false from by rw [qw];exact decide_eq_false c0,cond_false,cond_false,qd (show qo caps flows rates i≠0 from c0)]
  have el:(chS caps flows w i).2=qs caps flows w i:=rfl
  have w1:wI (1000000000000+qo caps flows rates i)=1000000000000+qo caps flows rates i:=qi (by omega) (by omega)
  have w2:wI (1000000000000+qo caps flows rates i - 1)=1000000000000+qo caps flows rates i - 1:=qi (by omega) (by omega)
  have w3:wI (Int.tdiv (1000000000000+qo caps flows rates i - 1) (qo caps flows rates i))=qp (qo caps flows rates i):=qi (x:=qp (qo caps flows rates i)) (by omega) (by omega)
  have p1:=Int.mul_le_mul hnb.1.2 hli.2 (by omega) (by omega)
  have p2:=Int.mul_nonneg hnb.1.1 (show 0<=qs caps flows w i by omega)
  have p3:=Int.mul_le_mul hni.2 hnb.2.2 (by omega) (by omega)
  have p4:=Int.mul_nonneg hni.1 (show 0<=(nmN (qo caps flows rates) (qs caps flows w) i).2 by omega)
  have w4:wI ((nmN (qo caps flows rates) (qs caps flows w) i).1*qs caps flows w i)=(nmN (qo caps flows rates) (qs caps flows w) i).1*qs caps flows w i:=qi (by omega) (by omega)
  have w5:wI (qp (qo caps flows rates i)*(nmN (qo caps flows rates) (qs caps flows w) i).2)=qp (qo caps flows rates i)*(nmN (qo caps flows rates) (qs caps flows w) i).2:=qi (by omega) (by omega)
  simp only [el,w1,w2,w3,w4,w5]
  unfold nmF
  cases decide ((nmN (qo caps flows rates) (qs caps flows w) i).1*qs caps flows w i < qp (qo caps flows rates i)*(nmN (qo caps flows rates) (qs caps flows w) i).2)<;>rfl
 ·show qX (n+1) _ _ _ _ _ _ _ _ _ _ _ _ _ _ _ _ _ _ _ _=_
  have hrl:=hg.rl
  rw [Hd];unfold gS ck;(repeat rewrite [obE]);rw [qg (show ¬ (flows.length:Int) < ((scR caps flows rates).length:Int) by omega)]
theorem qeE {w:List Int} (hw:Wt caps.length w) {s:Int×Int} (hs1:0<=s.1/\s.1<=1000000000000) (hs2:1<=s.2/\s.2<=6291456) {a b:Int} {c d:List (List Int)} {e:List Int} :
  jd FU w s.1 s.2 (ldL caps flows (qC flows)) caps (caps.length:Int) 0 a c b caps flows A R P g ws h (List.replicate caps.length 0) d e=some (prL caps flows w s):=by
 have hc:=hn.c1
 have e0:List.replicate caps.length (0:Int)=tab caps.length fun t=>if t < 0 then prS caps flows w s t else 0:=(qG _).trans (ql fun t _=>(if_neg (Nat.not_lt_zero t)).symm)
 rw [e0]
 refine qt (m:=caps.length) (by omega) (fun n j (l:List Int)=>jd n w s.1 s.2 (ldL caps flows (qC flows)) caps (caps.length:Int) j a c b caps flows A R P g ws h l d e)
  (fun j=>tab caps.length fun t=>if t < j then prS caps flows w s t else 0) (prL caps flows w s) (fun n j hj=>?_) fun n=>?_
 ·show jd (n+1) _ _ _ _ _ _ _ _ _ _ _ _ _ _ _ _ _ _ _ _ _=jd n _ _ _ _ _ _ _ _ _ _ _ _ _ _ _ _ _ _ _ _ _
  have hld:(ldL caps flows (qC flows)).length=caps.length:=qr _ _
  have hlg:(ldL caps flows (qC flows)).getD j 0=qm flows (qC flows) j:=qu _ hj
  have hwl:=hw.len
  have hwj:=hw.bd j hj
  have put:∀ x:Int,x=prS caps flows w s j->(tab caps.length fun t=>if t < j then prS caps flows w s t else 0).set j x=tab caps.length fun t=>if t < j+1 then prS caps flows w s t else 0:=fun x hx=>by
   rw [jl]
   exact ql fun t ht=>by
    by_cases c:t=j
    ·rw [if_pos c,if_pos (by omega),c];exact hx
    ·rw [if_neg c]
     by_cases c2:t < j
     ·rw [if_pos c2,if_pos (by omega)]
     ·rw [if_neg c2,if_neg (by omega)]
  rw [KU];unfold GB ck;rw [qd (show (j:Int) < (caps.length:Int) by omega),qd (show (0:Int)<=(j:Int) by omega),qd (show (j:Int) < (caps.length:Int) by omega),up1 (by omega)]
  simp only [Int.toNat_natCast,qr,hld,hlg]
  by_cases c1:caps.getD j 0=0
  ·rw [show (caps.getD j 0==0)=true from by rw [qw];exact decide_eq_true c1,cond_true,qd (show (j:Int) < (caps.length:Int) by omega),qd hj,put _ (by unfold prS;rw [c1];rfl)]
  rw [show (caps.getD j 0==0)=false from by rw [qw];exact decide_eq_false c1,cond_false,qd (show (j:Int) < (caps.length:Int) by omega)]
  by_cases c2:qm flows (qC flows) j > 0
  ·have p1:=Int.mul_le_mul hs1.2 hwj.2 (by omega) (by omega)
   have p2:=Int.mul_nonneg hs1.1 (show 0<=w.getD j 0 by omega)
   have w1:wI (s.1*w.getD j 0)=s.1*w.getD j 0:=qi (by omega) (by omega)
   have w2:wI (s.1*w.getD j 0+s.2)=s.1*w.getD j 0+s.2:=qi (by omega) (by omega)
   have w3:wI (s.1*w.getD j 0+s.2 - 1)=s.1*w.getD j 0+s.2 - 1:=qi (by omega) (by omega)
   have q0:0<=Int.tdiv (s.1*w.getD j 0+s.2 - 1) s.2:=Int.tdiv_nonneg (by omega) (by omega)
   have q1:Int.tdiv (s.1*w.getD j 0+s.2 - 1) s.2<=s.1*w.getD j 0+s.2 - 1:=by
    rw [Int.tdiv_eq_ediv_of_nonneg (by omega)]
    exact Int.ediv_le_self _ (by omega)
   have w4:wI (Int.tdiv (s.1*w.getD j 0+s.2 - 1) s.2)=Int.tdiv (s.1*w.getD j 0+s.2 - 1) s.2:=qi (by omega) (by omega)
   rw [qd c2,qd (show (j:Int) < (w.length:Int) by omega),qd (show s.2≠0 by omega),qd (show (j:Int) < (caps.length:Int) by omega),qd hj,w1,w2,w3,w4,
    put _ (by unfold prS;rw [show (caps.getD j 0==0)=false from by rw [qw];exact decide_eq_false c1,cond_false,qd c2])]
  ·rw [qg c2]
   congr 1
   exact ql fun t ht=>by
    by_cases c:t=j
    ·rw [c,if_neg (Nat.lt_irrefl j),if_pos (by omega)]
     unfold prS
     rw [show (caps.getD j 0==0)=false from by rw [qw];exact decide_eq_false c1,cond_false,qg c2]
    ·by_cases c3:t < j
     ·rw [if_pos c3,if_pos (by omega)]
     ·rw [if_neg c3,if_neg (by omega)]
 ·show jd (n+1) _ _ _ _ _ _ _ _ _ _ _ _ _ _ _ _ _ _ _ _ _=_
  rw [KU];unfold GB ck;rw [qg (show ¬ (caps.length:Int) < (caps.length:Int) by omega)]
  exact congrArg some (ql fun t ht=>if_pos ht)
theorem qft {w:List Int} (hw:Wt caps.length w) (hfit:Fit caps flows) {m:Int} (hm:0<=m/\m<=65000000000000) {rates:List (List Int)} (hr:Rg caps flows m rates) (hz:Nz flows rates):D0 rates w caps flows A R P g ws h=some (qx caps flows rates w):=by
 have hc:=hn.c1
 have hg:=gl hn hr hz
 have ht:=GE hn hr hz
 have e60:v60 rates caps flows A R P g ws h=some (ldL caps flows rates):=Da hn hm hr
 have hld:(ldL caps flows rates).length=caps.length:=qr _ _
 have hlb:∀ k,0<=(ldL caps flows rates).getD k 0/\(ldL caps flows rates).getD k 0<=3000000000000000:=fun k=>by
  by_cases hk:k < caps.length
  ·rw [show (ldL caps flows rates).getD k 0=qm flows rates k from qu _ hk]
   have:=qbA hn hm.1 hr k
   omega
  ·rw [out1 (by omega)];omega
 have e61:v61 (ldL caps flows rates) caps flows A R P g ws h=some (tgS caps flows rates:Int):=by rw [qb3 hn hld hlb,ht.1]
 have hcl:∀ i t:Nat,i < flows.length->t < (flows.getD i []).length->v81 (i:Int) (t:Int) rates caps flows A R P g ws h (tgS caps flows rates:Int) (ldL caps flows rates)=some (scS caps flows rates i t):=fun i t hi ht'=>by
  have hrl:=hr.rl
  have hri:=hr.rli i hi
  have hrt:=hr.rate i t
  have hcp:=hn.cap (tgS caps flows rates)
  have hlt:=hlb (tgS caps flows rates)
  have hlg:(ldL caps flows rates).getD (tgS caps flows rates) 0=qm flows rates (tgS caps flows rates):=qu _ ht.2.1
  have hsc:=qbL hn hr hz hi ht'
  unfold v81 tv81 ck;(repeat rewrite [obE])
  rw [qd (show (0:Int)<=(i:Int) by omega),qd (show (i:Int) < (rates.length:Int) by omega),qd (show (0:Int)<=(t:Int) by omega)]
  simp only [Int.toNat_natCast,hld]
  rw [qd (show (t:Int) < ((rates.getD i []).length:Int) by omega),qd (show (0:Int)<=(tgS caps flows rates:Int) by omega),qd (show (tgS caps flows rates:Int) < (caps.length:Int) by omega),qd (show (tgS caps flows rates:Int) < (caps.length:Int) by omega),hlg]
  have w1:wI (1000000*caps.getD (tgS caps flows rates) 0)=1000000*caps.getD (tgS caps flows rates) 0:=qi (by omega) (by omega)
  have hv:v56 (rt rates i t) (1000000*caps.getD (tgS caps flows rates) 0) (qm flows rates (tgS caps flows rates))=some (scS caps flows rates i t):=qb2 hrt.1 (by omega) (by omega) (by omega) ht.2.2.1 (by omega) (by
   have e:rt rates i t*(1000000*caps.getD (tgS caps flows rates) 0) / qm flows rates (tgS caps flows rates)=scS caps flows rates i t:=rfl
   omega)
  rw [w1,show (rates.getD i []).getD t 0=rt rates i t from rfl,hv]
  rfl
 have e31:GU caps flows A R P g ws h rates (tgS caps flows rates:Int) (ldL caps flows rates)=some (scR caps flows rates):=qbZ hn (scS caps flows rates) hcl
 have e314:GV caps flows A R P g ws h=some (qC flows):=qb0 hn (fun _ _=>1) (fun _ _ _ _=>rfl)
 have hone:v60 (qC flows) caps flows A R P g ws h=some (ldL caps flows (qC flows)):=by
  have hq:Rg (tab 8 fun _=>1) flows 1 (qC flows):=JC (by omega) (fun _ _ _ _=>by omega) (fun i t hi ht _=>use_iff.2 fun j hj=>by
   have:=hn.link i t j hi ht hj
   rw [qu _ (by omega)];decide)
  exact Da hn (m:=1) (by omega) hq
 have h36:gC w 0 0 caps flows A R P g ws h (ldL caps flows rates) rates (tgS caps flows rates:Int) [] (List.replicate caps.length 0) [] []=some (cond (jS caps flows rates) ((gh caps flows (scR caps flows rates) (prL caps flows w (nmS caps flows rates w))).2==0,scR caps flows rates,(gh caps flows (scR caps flows rates) (prL caps flows w (nmS caps flows rates w))).1,prL caps flows w (nmS caps flows rates w)) (false,scR caps flows rates,0,List.replicate caps.length 0)):=by
  unfold gC Jr;(repeat rewrite [obE])
  rw [e31]
  simp only [qf,qe,cond_true]
  unfold G4 Jt;(repeat rewrite [obE])
  rw [l75_0_1 hn hw hfit hm hr hz]
  cases hfull:jS caps flows rates with
  | false=>rfl
  | true=>
   have hb:=DU hn hw hfit hr hz hfull
   have e16:=qeE hn hw hb.1 hb.2.1 (A:=A) (R:=R) (P:=P) (g:=g) (ws:=ws) (h:=h) (a:=0) (b:=0) (c:=scR caps flows rates) (d:=[]) (e:=[])
   have hfew:Few caps flows (scR caps flows rates) (prL caps flows w (nmS caps flows rates w)):=qcT hn hg.rl hg.rli (by unfold prL;rw [qr];omega)
   rw [e314]
   simp only [cond_true,DT,JM,qf,qe,cond_false]
   rw [hone]
   simp only [qf,qe,cond_true]
   unfold Gm GT;(repeat rewrite [obE])
   rw [e16]
   simp only [qf,qe,cond_true]
   unfold jN gn;(repeat rewrite [obE])
   rw [qeq hfew]
   rfl
 unfold D0 qaG;(repeat rewrite [obE])
 rw [e60]
 simp only [qf,qe,cond_true]
 rw [e61]
 simp only [qf,qe,cond_true,Int.toNat_natCast]
 rw [h36,qd (Int.le_refl _),qd (show (caps.length:Int)<=((2147483648:Nat):Int) by omega)]
 unfold qx
 cases jS caps flows rates with
 | true=>rfl
 | false=>rw [qG];rfl
theorem qfs {w:List Int} (hw:Wt caps.length w) (hfit:Fit caps flows) {m:Int} (hm:0<=m/\m<=65000000000000) {rates:List (List Int)} (hr:Rg caps flows m rates) (hz:Nz flows rates):JU rates w caps flows A R P g ws h=some (qI (R,P,g) (qx caps flows rates w)):=by
 unfold JU qaA;(repeat rewrite [obE])
 rw [qft hn hw hfit hm hr hz]
 have e:((R.length:Int)==0)=decide (R.length=0):=by
  rw [qw]
  apply decide_eq_decide.2
  omega
 simp only [qf,qe,cond_true,e]
 unfold qI
 cases (qx caps flows rates w).2.2.2 with
 | false=>rfl
 | true=>
  cases decide (R.length=0) with
  | true=>rfl
  | false=>
   simp only [cond_true,cond_false]
   by_cases c:(qx caps flows rates w).2.2.1 < g
   ·exact (qd c _ _).trans (congrArg some (qd c _ _).symm)
   ·exact (qg c _ _).trans (congrArg some (qg c _ _).symm)
end
theorem qbP (l:List Int):l=tab l.length fun k=>l.getD k 0:=(qdS l 0).symm
theorem JP {n j:Nat} (f f':Nat->Int) {x:Int} (hx:x=f j):(tab n fun t=>if t < j then f t else f' t).set j x=tab n fun t=>if t < j+1 then f t else f' t:=by
 rw [jl]
 exact ql fun t ht=>by
  by_cases c:t=j
  ·rw [if_pos c,if_pos (by omega),c];exact hx
  ·rw [if_neg c]
   by_cases c2:t < j
   ·rw [if_pos c2,if_pos (by omega)]
   ·rw [if_neg c2,if_neg (by omega)]
theorem qfm {n j:Nat} (f f':Nat->Int) (hx:f j=f' j):(tab n fun t=>if t < j then f t else f' t)=tab n fun t=>if t < j+1 then f t else f' t:=
 ql fun t ht=>by
  by_cases c:t=j
  ·rw [c,if_neg (Nat.lt_irrefl j),if_pos (by omega),hx]
  ·by_cases c2:t < j
   ·rw [if_pos c2,if_pos (by omega)]
   ·rw [if_neg c2,if_neg (by omega)]
theorem Jx {n:Nat} (f f':Nat->Int):tab n f'=tab n fun t=>if t < 0 then f t else f' t:=ql fun t _=>(if_neg (Nat.not_lt_zero t)).symm
theorem qen {n j:Nat} (f f':Nat->Int) (hj:j < n):(tab n fun t=>if t < j then f t else f' t).getD j 0=f' j:=by rw [qu _ hj,if_neg (Nat.lt_irrefl j)]
theorem qdb {m:Nat} (hm:m<=9223372036854775807) {ρ:Type} (F:Nat->Int->Option (ρ ⊕ Unit)) (c:ρ) (z:Nat->Bool)
  (step:∀ n i,i < m->F (n+1) (i:Int)=cond (z i) (some (.inl c)) (F n ((i+1:Nat):Int))) (fin:∀ n,F (n+1) (m:Int)=some (.inr ())) :
  F FU 0=some (cond ((List.range m).all fun i=>!z i) (.inr ()) (.inl c)):=by
 have key:∀ k i n,i+k=m->k < n->(∃ j,i<=j/\j < m/\z j=true/\F n (i:Int)=some (.inl c))\/((∀ j,i<=j->j < m->z j=false)/\F n (i:Int)=some (.inr ())):=by
  intro k
  induction k with
  | zero=>
   intro i n h1 h2
   cases n with
   | zero=>omega
   | succ n=>
    have:i=m:=by omega
    subst this
    exact .inr ⟨fun j h3 h4=>by omega,fin n⟩
  | succ k ih=>
   intro i n h1 h2
   cases n with
   | zero=>omega
   | succ n=>
    rw [step n i (by omega)]
    cases hz:z i with
    | true=>exact .inl ⟨i,Nat.le_refl _,by omega,hz,rfl⟩
    | false=>
     rcases ih (i+1) n (by omega) (by omega) with ⟨j,a,b,d,e⟩ | ⟨a,e⟩
     ·exact .inl ⟨j,by omega,b,d,e⟩
     ·refine .inr ⟨fun j h3 h4=>?_,e⟩
      by_cases h5:j=i
      ·rw [h5];exact hz
      ·exact a j (by omega) h4
 rcases key m 0 FU (by omega) (by unfold FU;omega) with ⟨j,a,b,d,e⟩ | ⟨a,e⟩
 ·have h:((List.range m).all fun i=>!z i)=false:=List.all_eq_false.2 ⟨j,List.mem_range.2 b,by rw [d];decide⟩
  rw [h];exact e
 ·have h:((List.range m).all fun i=>!z i)=true:=List.all_eq_true.2 fun j hj=>by rw [a j (Nat.zero_le _) (List.mem_range.1 hj)];rfl
  rw [h];exact e
section
variable {caps : List Int} {flows : Fl} (hn : Nw caps flows) {A R : List (List Int)} {P : List Int} {g : Int} {ws h : List Int}
include hn
theorem l34_0 (hw:Wt caps.length ws) (hl:h.length=caps.length) (hb:∀ k,k < caps.length->0<=h.getD k 0/\h.getD k 0<=2000000000) {A' now:List (List Int)} :
  jg FU (ws.length:Int) 0 caps flows A' R P g ws h now=some (qA h ws):=by
 have hc:=hn.c1
 have hwl:=hw.len
 have e0:h=tab h.length fun t=>if t < 0 then h.getD t 0+ws.getD t 0 else h.getD t 0:=(qbP h).trans (Jx _ _)
 have h0:jg FU (ws.length:Int) 0 caps flows A' R P g ws (tab h.length fun t=>if t < 0 then h.getD t 0+ws.getD t 0 else h.getD t 0) now=some (qA h ws):=by
  refine qt (m:=h.length) (by omega) (fun n j (l:List Int)=>jg n (ws.length:Int) j caps flows A' R P g ws l now) (fun j=>tab h.length fun t=>if t < j then h.getD t 0+ws.getD t 0 else h.getD t 0) (qA h ws) (fun n j hj=>?_) fun n=>?_
  ·show jg (n+1) _ _ _ _ _ _ _ _ _ _ _=jg n _ _ _ _ _ _ _ _ _ _ _
   have hbj:=hb j (by omega)
   have hwj:=hw.bd j (by omega)
   rw [ST];unfold G9 ck;rw [qd (show (j:Int) < (ws.length:Int) by omega),qd (show (0:Int)<=(j:Int) by omega),qd (show (j:Int) < (ws.length:Int) by omega),up1 (by omega)]
   simp only [Int.toNat_natCast,qr]
   rw [qd (show j < ws.length by omega),qd (show (j:Int) < (h.length:Int) by omega),qd hj,qen _ _ hj,qi (by omega) (by omega),JP _ _ rfl]
  ·show jg (n+1) _ _ _ _ _ _ _ _ _ _ _=_
   rw [ST];unfold G9 ck;rw [qg (show ¬ (h.length:Int) < (ws.length:Int) by omega)]
   exact congrArg some (ql fun t ht=>if_pos ht)
 rw [<- e0] at h0
 exact h0
theorem l34_16 (hl:h.length=caps.length) (hb:∀ k,k < caps.length->0<=h.getD k 0/\h.getD k 0<=2000000000) {A' now:List (List Int)} :
  q8 FU (h.length:Int) 0 caps flows A' R P g ws h now (List.replicate h.length 0)=some (mnL h):=by
 have hc:=hn.c1
 have e0:List.replicate h.length (0:Int)=tab h.length fun t=>if t < 0 then mnS h t else 0:=(qG _).trans (Jx _ _)
 have e59:v59 h=some (gi h):=v59_eq (by omega) (by omega)
 rw [e0]
 refine qt (m:=h.length) (by omega) (fun n j (l:List Int)=>q8 n (h.length:Int) j caps flows A' R P g ws h now l) (fun j=>tab h.length fun t=>if t < j then mnS h t else 0) (mnL h) (fun n j hj=>?_) fun n=>?_
 ·show q8 (n+1) _ _ _ _ _ _ _ _ _ _ _ _=q8 n _ _ _ _ _ _ _ _ _ _ _ _
  have hbj:=hb j (by omega)
  rw [KM];unfold Gu ck;(repeat rewrite [obE]);rw [qd (show (j:Int) < (h.length:Int) by omega),qd (show (0:Int)<=(j:Int) by omega),qd (show (j:Int) < (h.length:Int) by omega),up1 (by omega)]
  simp only [Int.toNat_natCast,qr,e59,qf,qe,cond_true]
  have w1:wI (h.getD j 0*1024)=h.getD j 0*1024:=qi (by omega) (by omega)
  have q0:0<=Int.tdiv (h.getD j 0*1024) (max 1 (gi h)):=Int.tdiv_nonneg (by omega) (by omega)
  have q1:Int.tdiv (h.getD j 0*1024) (max 1 (gi h))<=h.getD j 0*1024:=by
   rw [Int.tdiv_eq_ediv_of_nonneg (by omega)]
   exact Int.ediv_le_self _ (by omega)
  have w2:wI (Int.tdiv (h.getD j 0*1024) (max 1 (gi h)))=Int.tdiv (h.getD j 0*1024) (max 1 (gi h)):=qi (by omega) (by omega)
  rw [qd hj,qd (show max 1 (gi h)≠0 by omega),qd (show (j:Int) < (h.length:Int) by omega),qd hj,w1,w2,JP (mnS h) _ (x:=max 16 (Int.tdiv (h.getD j 0*1024) (max 1 (gi h)))) rfl]
 ·show q8 (n+1) _ _ _ _ _ _ _ _ _ _ _ _=_
  rw [KM];unfold Gu ck;(repeat rewrite [obE]);rw [qg (show ¬ (h.length:Int) < (h.length:Int) by omega)]
  exact congrArg some (ql fun t ht=>if_pos ht)
theorem l34_32 (hw:Wt caps.length ws) (hfit:Fit caps flows) {A':List (List Int)} :
  qO FU (ldL caps flows (qh caps flows ws)) (tgS caps flows (qh caps flows ws):Int) (ws.length:Int) 0 caps flows A' R P g ws h=some (nxL caps flows ws):=by
 have hc:=hn.c1
 have hwl:=hw.len
 have hr:=gk hn hw hfit
 have hz:=gj hn hw hfit
 have ht:=GE hn hr hz
 have hld:(ldL caps flows (qh caps flows ws)).length=caps.length:=qr _ _
 have hlg:∀ k,k < caps.length->(ldL caps flows (qh caps flows ws)).getD k 0=qm flows (qh caps flows ws) k:=fun k hk=>qu _ hk
 have e0:ws=tab caps.length fun t=>if t < 0 then nxS caps flows ws t else ws.getD t 0:=(qbP ws).trans ((congrArg (fun n=>tab n fun k=>ws.getD k 0) hwl).trans (Jx _ _))
 have h0:qO FU (ldL caps flows (qh caps flows ws)) (tgS caps flows (qh caps flows ws):Int) (ws.length:Int) 0 caps flows A' R P g (tab caps.length fun t=>if t < 0 then nxS caps flows ws t else ws.getD t 0) h=some (nxL caps flows ws):=by
  refine qt (m:=caps.length) (by omega) (fun n j (l:List Int)=>qO n (ldL caps flows (qh caps flows ws)) (tgS caps flows (qh caps flows ws):Int) (ws.length:Int) j caps flows A' R P g l h)
   (fun j=>tab caps.length fun t=>if t < j then nxS caps flows ws t else ws.getD t 0) (nxL caps flows ws) (fun n j hj=>?_) fun n=>?_
  ·show qO (n+1) _ _ _ _ _ _ _ _ _ _ _ _=qO n _ _ _ _ _ _ _ _ _ _ _ _
   have hwj:=hw.bd j hj
   have hcj:=hn.cap j
   have hct:=hn.cap (tgS caps flows (qh caps flows ws))
   have hlj:=qbA hn (by omega) hr j
   rw [KN];unfold Gv ck;rw [qd (show (j:Int) < (ws.length:Int) by omega),qd (show (0:Int)<=(j:Int) by omega)]
   simp only [Int.toNat_natCast,qr,hld,hlg j hj,hlg _ ht.2.1]
   rw [qd (show (j:Int) < (caps.length:Int) by omega),qd hj,qd (show (j:Int) < (caps.length:Int) by omega),up1 (by omega)]
   by_cases c:caps.getD j 0 > 0
   ·rw [qd c,qd (show (j:Int) < (caps.length:Int) by omega),qd (show (0:Int)<=(tgS caps flows (qh caps flows ws):Int) by omega),qd (show (tgS caps flows (qh caps flows ws):Int) < (caps.length:Int) by omega),qd (show (tgS caps flows (qh caps flows ws):Int) < (caps.length:Int) by omega),qd (show qm flows (qh caps flows ws) (tgS caps flows (qh caps flows ws))≠0 by omega),qd (show caps.getD j 0≠0 by omega),qen _ _ hj]
    have p1:=Int.mul_le_mul hlj.2 hct.2 hct.1 (by omega)
    have p2:=Int.mul_nonneg hlj.1 hct.1
    have w1:wI (qm flows (qh caps flows ws) j*caps.getD (tgS caps flows (qh caps flows ws)) 0)=qm flows (qh caps flows ws) j*caps.getD (tgS caps flows (qh caps flows ws)) 0:=qi (by omega) (by omega)
    rw [w1]
    obtain ⟨x,hx⟩:∃ x,x=Int.tdiv (qm flows (qh caps flows ws) j*caps.getD (tgS caps flows (qh caps flows ws)) 0) (qm flows (qh caps flows ws) (tgS caps flows (qh caps flows ws))):=⟨_,rfl⟩
    have hx0:0<=x:=by rw [hx];exact Int.tdiv_nonneg p2 (by omega)
    have hx1:x<=32*64000000000*1000:=by
     rw [hx,Int.tdiv_eq_ediv_of_nonneg p2]
     exact Int.le_trans (Int.ediv_le_self _ p2) p1
    rw [<- hx]
    have w2:wI x=x:=qi (by omega) (by omega)
    have w3:wI (x*1000)=x*1000:=qi (by omega) (by omega)
    rw [w2,w3]
    obtain ⟨y,hy⟩:∃ y,y=Int.tdiv (x*1000) (caps.getD j 0):=⟨_,rfl⟩
    have hy0:0<=y:=by rw [hy];exact Int.tdiv_nonneg (by omega) (by omega)
    have hy1:y<=x*1000:=by
     rw [hy,Int.tdiv_eq_ediv_of_nonneg (by omega)]
     exact Int.ediv_le_self _ (by omega)
    have hf:fulS caps flows ws j=y:=by rw [hy,hx];rfl
    rw [<- hy]
    have w4:wI y=y:=qi (by omega) (by omega)
    have w5:wI (1000+min y 1000)=1000+min y 1000:=qi (by omega) (by omega)
    have p3:=Int.mul_le_mul hwj.2 (show 1000+min y 1000<=2000 by omega) (by omega) (by omega)
    have p4:=Int.mul_nonneg (show 0<=ws.getD j 0 by omega) (show 0<=1000+min y 1000 by omega)
    rw [w4,w5]
    have w6:wI (ws.getD j 0*(1000+min y 1000))=ws.getD j 0*(1000+min y 1000):=qi (by omega) (by omega)
    have q0:0<=Int.tdiv (ws.getD j 0*(1000+min y 1000)) 1500:=Int.tdiv_nonneg p4 (by omega)
    have q1:Int.tdiv (ws.getD j 0*(1000+min y 1000)) 1500<=ws.getD j 0*(1000+min y 1000):=by
     rw [Int.tdiv_eq_ediv_of_nonneg p4]
     exact Int.ediv_le_self _ p4
    have w7:wI (Int.tdiv (ws.getD j 0*(1000+min y 1000)) 1500)=Int.tdiv (ws.getD j 0*(1000+min y 1000)) 1500:=qi (by omega) (by omega)
    rw [w6,w7,JP (nxS caps flows ws) _ (by unfold nxS;rw [qd c,hf])]
   ·rw [qg c,qfm (nxS caps flows ws) _ (by unfold nxS;rw [qg c])]
  ·show qO (n+1) _ _ _ _ _ _ _ _ _ _ _ _=_
   rw [KN];unfold Gv ck;rw [qg (show ¬ (caps.length:Int) < (ws.length:Int) by omega)]
   exact congrArg some (ql fun t ht=>if_pos ht)
 rw [<- e0] at h0
 exact h0
theorem v34_eq (hfit:Fit caps flows) {k:Nat} (hk:k<=1000) (hi:Inv caps flows k (ws,A,h,R,P,g)):v34 caps flows A R P g ws h=
  some ((rdS caps flows (ws,A,h,R,P,g)).2.1,(rdS caps flows (ws,A,h,R,P,g)).2.2.2.1,(rdS caps flows (ws,A,h,R,P,g)).2.2.2.2.1,(rdS caps flows (ws,A,h,R,P,g)).2.2.2.2.2,(rdS caps flows (ws,A,h,R,P,g)).1,(rdS caps flows (ws,A,h,R,P,g)).2.2.1):=by
 have hw:Wt caps.length ws:=hi.wt
 have hrA:Rg caps flows (k*64000000000) A:=hi.rg
 have hl:h.length=caps.length:=hi.hl
 have hb:∀ j,j < caps.length->0<=h.getD j 0/\h.getD j 0<=k*1048576:=hi.hb
 have hnow:=gk hn hw hfit
 have hnz:=gj hn hw hfit
 obtain ⟨hsr,hsz⟩:=qem hn hfit hi
 obtain ⟨hsl,hsb⟩:=qel hn hfit hi
 have hc:=hn.c1
 have e1:JR caps flows A R P g ws h=some (qh caps flows ws):=qfn hn (jj caps flows ws) (fun i t hi' ht=>by
  obtain ⟨b,_,_,hb1,hb2,hb3,hb4,hb5⟩:=G7 hn hw hfit hi'
  unfold v55 tv55;(repeat rewrite [obE])
  rw [qb1 hn hw hi']
  simp only [qf,qe,cond_true]
  by_cases c:t=b
  ·subst c
   have e:(chS caps flows ws i).2=qs caps flows ws i:=rfl
   have hv:v56 1000000000 1024 (qs caps flows ws i)=some (1000000000*1024 / qs caps flows ws i):=qb2 (by omega) (by omega) (by omega) (by omega) (by omega) (by omega) (by
    have:(1000000000:Int)*1024 / qs caps flows ws i=jj caps flows ws i t:=hb4.symm
    omega)
   have e2:(1000000000:Int)*1024 / qs caps flows ws i=jj caps flows ws i t:=hb4.symm
   rw [show ((chS caps flows ws i).1==(t:Int))=true from by rw [hb1];exact beq_self_eq_true _,cond_true,e,hv]
   simp only [qf,qe,cond_true]
   rw [e2]
  ·rw [show ((chS caps flows ws i).1==(t:Int))=false from by rw [hb1,qw];exact decide_eq_false (by omega),hb5 t c];rfl)
 have hnowv:∀ i t:Nat,i < flows.length->t < (flows.getD i []).length->v57 (i:Int) (t:Int) caps flows A R P g ws h (qh caps flows ws)=some (rt A i t+rt (qh caps flows ws) i t):=fun i t hi' ht=>by
  have r1:=hrA.rate i t
  have r2:=hnow.rate i t
  have l1:=hrA.rl
  have l2:=hrA.rli i hi'
  have l3:=hnow.rl
  have l4:=hnow.rli i hi'
  unfold v57 tv57 ck
  rw [qd (show (0:Int)<=(i:Int) by omega),qd (show (i:Int) < (A.length:Int) by omega),qd (show (0:Int)<=(t:Int) by omega)]
  simp only [Int.toNat_natCast]
  rw [qd (show (t:Int) < ((A.getD i []).length:Int) by omega),qd (show (i:Int) < ((qh caps flows ws).length:Int) by omega),qd (show (t:Int) < (((qh caps flows ws).getD i []).length:Int) by omega)]
  rw [show (A.getD i []).getD t 0=rt A i t from rfl,show ((qh caps flows ws).getD i []).getD t 0=rt (qh caps flows ws) i t from rfl,qi (by omega) (by omega)]
 have e2:JS caps flows A R P g ws h (qh caps flows ws)=some (qT flows A (qh caps flows ws)):=qfo hn (fun i t=>rt A i t+rt (qh caps flows ws) i t) hnowv
 have e3:=l34_0 hn (R:=R) (P:=P) (g:=g) hw hl (fun j hj=>by have:=hb j hj;omega) (A':=qT flows A (qh caps flows ws)) (now:=qh caps flows ws)
 have e4:v58 (qh caps flows ws) caps flows (qT flows A (qh caps flows ws)) R P g ws (qA h ws)=some (qI (R,P,g) (qx caps flows (qh caps flows ws) ws)):=v58_eq hn hw hfit (by omega) hnow hnz
 obtain ⟨o1,ho1⟩:∃ o,o=qI (R,P,g) (qx caps flows (qh caps flows ws) ws):=⟨_,rfl⟩
 have hsb':∀ j,j < caps.length->0<=(qA h ws).getD j 0/\(qA h ws).getD j 0<=2000000000:=fun j hj=>by have:=hsb j hj;simp only at this;omega
 have e5:=l34_16 hn (R:=o1.1) (P:=o1.2.1) (g:=o1.2.2) (ws:=ws) hsl hsb' (A':=qT flows A (qh caps flows ws)) (now:=qh caps flows ws)
 have hmw:Wt caps.length (mnL (qA h ws)):=by
  have:=mn_wt (h:=qA h ws) fun j hj=>(hsb' j (by rw [<- hsl];exact hj)).1
  rwa [show (qA h ws).length=caps.length from hsl] at this
 have e6:JU (qT flows A (qh caps flows ws)) (mnL (qA h ws)) caps flows (qT flows A (qh caps flows ws)) o1.1 o1.2.1 o1.2.2 ws (qA h ws)=some (qI (o1.1,o1.2.1,o1.2.2) (qx caps flows (qT flows A (qh caps flows ws)) (mnL (qA h ws)))):=
  qfs hn hmw hfit (by omega) hsr hsz
 obtain ⟨o2,ho2⟩:∃ o,o=qI (o1.1,o1.2.1,o1.2.2) (qx caps flows (qT flows A (qh caps flows ws)) (mnL (qA h ws))):=⟨_,rfl⟩
 have e7:v60 (qh caps flows ws) caps flows (qT flows A (qh caps flows ws)) o2.1 o2.2.1 o2.2.2 ws (qA h ws)=some (ldL caps flows (qh caps flows ws)):=Da hn (by omega) hnow
 have hlb:∀ k,0<=(ldL caps flows (qh caps flows ws)).getD k 0/\(ldL caps flows (qh caps flows ws)).getD k 0<=3000000000000000:=fun k=>by
  by_cases hk:k < caps.length
  ·rw [show (ldL caps flows (qh caps flows ws)).getD k 0=qm flows (qh caps flows ws) k from qu _ hk]
   have:=qbA hn (by omega) hnow k
   omega
  ·rw [out1 (by rw [show (ldL caps flows (qh caps flows ws)).length=caps.length from qr _ _];omega)];omega
 have e8:v61 (ldL caps flows (qh caps flows ws)) caps flows (qT flows A (qh caps flows ws)) o2.1 o2.2.1 o2.2.2 ws (qA h ws)=some (tgS caps flows (qh caps flows ws):Int):=by
  rw [qb3 hn (show (ldL caps flows (qh caps flows ws)).length=caps.length from qr _ _) hlb,(GE hn hnow hnz).1]
 have e9:=l34_32 hn hw hfit (R:=o2.1) (P:=o2.2.1) (g:=o2.2.2) (h:=qA h ws) (A':=qT flows A (qh caps flows ws))
 have e132:jZ caps flows (qT flows A (qh caps flows ws)) o2.1 o2.2.1 o2.2.2 ws (qA h ws) (qh caps flows ws)=some (nxL caps flows ws):=by
  unfold jZ GJ;(repeat rewrite [obE])
  rw [e7]
  simp only [qf,qe,cond_true]
  rw [e8]
  simp only [qf,qe,cond_true]
  unfold Ge GK;(repeat rewrite [obE])
  rw [e9]
  rfl
 have e76:gv caps flows (qT flows A (qh caps flows ws)) o1.1 o1.2.1 o1.2.2 ws (qA h ws) (qh caps flows ws)=some (o2.1,o2.2.1,o2.2.2,nxL caps flows ws):=by
  unfold gv Jo;(repeat rewrite [obE])
  rw [Int.toNat_natCast,e5]
  simp only [qf,qe,cond_true]
  unfold Gd GI;(repeat rewrite [obE])
  rw [e6,<- ho2]
  simp only [qf,qe,cond_true]
  rw [e132,qd (Int.le_refl _),qd (show ((qA h ws).length:Int)<=((2147483648:Nat):Int) by have:=hsl;simp only at this;omega)]
  rfl
 have hR:rdS caps flows (ws,A,h,R,P,g)=(nxL caps flows ws,qT flows A (qh caps flows ws),qA h ws,o2):=by
  unfold rdS
  rw [ho2,ho1]
 rw [hR]
 unfold v34 tv34;(repeat rewrite [obE])
 rw [e1]
 simp only [qf,qe,cond_true]
 unfold G1 Jm;(repeat rewrite [obE])
 rw [e2]
 simp only [qf,qe,cond_true]
 rw [e3]
 simp only [qf,qe,cond_true]
 unfold G2 Jn;(repeat rewrite [obE])
 rw [e4,<- ho1]
 simp only [qf,qe,cond_true]
 rw [e76]
 rfl
end
def fitS (caps:List Int) (flows:Fl):Bool:=(List.range flows.length).all fun i=>!decide ((chS caps flows (w0L caps.length) i).1 < 0)
theorem fit_iff {caps:List Int} {flows:Fl}:fitS caps flows=true↔Fit caps flows:=by
 unfold fitS
 rw [List.all_eq_true]
 constructor
 ·intro h i hi
  have h1:=h i (List.mem_range.2 hi)
  rcases JK caps (flows.getD i []) (w0L caps.length) (flows.getD i []).length with ⟨h2,_⟩ | ⟨b,h2,h3,_⟩
  ·have e:(chS caps flows (w0L caps.length) i).1=-1:=h2
   rw [e] at h1
   exact absurd h1 (by decide)
  ·exact ⟨b,h2,h3⟩
 ·intro h i hi
  obtain ⟨t,ht,hu⟩:=h i (List.mem_range.1 hi)
  rcases JK caps (flows.getD i []) (w0L caps.length) (flows.getD i []).length with ⟨_,h2⟩ | ⟨b,_,_,h4,_⟩
  ·rw [h2 t ht] at hu;cases hu
  ·have e:(chS caps flows (w0L caps.length) i).1=(b:Int):=congrArg Prod.fst h4
   rw [e,decide_eq_false (by omega)];rfl
def qZ (caps:List Int) (flows:Fl) (r:Int):Bst:=(stN caps flows (r.toNat+1)).2.2.2
def qbM (caps:List Int) (flows:Fl) (r:Int):List (List Int)×List Int×Int×Int:=
 cond (qB caps flows&&decide (0<=r/\r<=1000)) (cond (fitS caps flows) ((qZ caps flows r).1,(qZ caps flows r).2.1,(qZ caps flows r).2.2,0) ([],[],0,4)) ([],[],0,1)
theorem v14_eq {caps:List Int} {flows:Fl} {rates:List (List Int)} {prices:List Int} (hf:Few caps flows rates prices) (r:Int):v14 caps flows r=some (qbM caps flows r):=by
 unfold v14 tv14 qbM;(repeat rewrite [obE])
 rw [qer hf]
 simp only [qf,qe,cond_true,JB]
 cases hv:qB caps flows with
 | false=>rfl
 | true=>
 rw [cond_true,Bool.true_and]
 by_cases c1:r < 0
 ·rw [qd c1,decide_eq_false (show ¬ (0<=r/\r<=1000) by omega)];rfl
 rw [qg c1]
 by_cases c2:r > 1000
 ·rw [qd c2,decide_eq_false (show ¬ (0<=r/\r<=1000) by omega)];rfl
 rw [qg c2,decide_eq_true (show 0<=r/\r<=1000 by omega),cond_true]
 have hn:=qas hv
 have hc:=hn.c1
 have hfl:=hn.f1
 have hw:=jL caps.length
 have e0:jm FU r ((List.replicate caps.length (0:Int)).length:Int) 0 caps flows 0 caps flows [] [] 0 (List.replicate caps.length 0) (List.replicate caps.length 0) [] []=some (w0L caps.length):=by
  rw [List.length_replicate,show List.replicate caps.length (0:Int)=tab caps.length fun t=>if t < 0 then (1024:Int) else 0 from (qG _).trans (Jx _ _)]
  refine qt (m:=caps.length) (by omega) (fun n j (l:List Int)=>jm n r (caps.length:Int) j caps flows 0 caps flows [] [] 0 l (tab caps.length fun t=>if t < 0 then (1024:Int) else 0) [] []) (fun j=>tab caps.length fun t=>if t < j then (1024:Int) else 0) (w0L caps.length) (fun n j hj=>?_) fun n=>?_
  ·show jm (n+1) _ _ _ _ _ _ _ _ _ _ _ _ _ _ _=jm n _ _ _ _ _ _ _ _ _ _ _ _ _ _ _
   rw [SI];unfold gE ck;rw [qd (show (j:Int) < (caps.length:Int) by omega),qd (show (0:Int)<=(j:Int) by omega),up1 (by omega)]
   simp only [Int.toNat_natCast,qr]
   rw [qd (show (j:Int) < (caps.length:Int) by omega),qd hj,JP (fun _=>(1024:Int)) (fun _=>0) rfl]
  ·show jm (n+1) _ _ _ _ _ _ _ _ _ _ _ _ _ _ _=_
   rw [SI];unfold gE ck;rw [qg (show ¬ (caps.length:Int) < (caps.length:Int) by omega)]
   exact congrArg some (ql fun t ht=>if_pos ht)
 have e1:v31 caps flows [] [] 0 (w0L caps.length) (List.replicate caps.length 0)=some (rtT flows fun _ _=>0):=v31_eq hn (fun _ _=>0) (fun _ _ _ _=>rfl)
 have e2:qH FU r (flows.length:Int) 0 0 caps flows (rtT flows fun _ _=>0) [] [] 0 (w0L caps.length) (List.replicate caps.length 0) [] []=some (cond (fitS caps flows) (.inr ()) (.inl (4,0))):=by
  refine qdb (m:=flows.length) (by omega) (fun n i=>qH n r (flows.length:Int) i 0 caps flows (rtT flows fun _ _=>0) [] [] 0 (w0L caps.length) (List.replicate caps.length 0) [] []) ((4,0):Int×Int) (fun i=>decide ((chS caps flows (w0L caps.length) i).1 < 0)) (fun n i hi=>?_) fun n=>?_
  ·show qH (n+1) _ _ _ _ _ _ _ _ _ _ _ _ _ _=_
   rw [KF];unfold j7;(repeat rewrite [obE]);rw [qd (show (i:Int) < (flows.length:Int) by omega),qb1 hn hw hi,up1 (by omega)]
   rfl
  ·show qH (n+1) _ _ _ _ _ _ _ _ _ _ _ _ _ _=_
   rw [KF];unfold j7;(repeat rewrite [obE]);rw [qg (show ¬ (flows.length:Int) < (flows.length:Int) by omega)]
 have e36:qF r caps flows 0 caps flows [] [] 0 (List.replicate caps.length 0) (List.replicate caps.length 0) [] []=some (cond (fitS caps flows) (.inr (0,(qZ caps flows r).1,(qZ caps flows r).2.1,(qZ caps flows r).2.2)) (.inl (4,0))):=by
  unfold qF Jk;(repeat rewrite [obE])
  rw [e0]
  simp only [qf,qe,cond_true]
  rw [e1]
  simp only [qf,qe,cond_true]
  unfold jM Jl;(repeat rewrite [obE])
  rw [e2]
  cases hfit:fitS caps flows with
  | false=>rfl
  | true=>
   have hfit':=fit_iff.1 hfit
   have w1:wI (r+1)=((r.toNat+1:Nat):Int):=by rw [qi (by omega) (by omega)];omega
   have h32:q7 FU ((r.toNat+1:Nat):Int) 0 0 caps flows (rtT flows fun _ _=>0) [] [] 0 (w0L caps.length) (List.replicate caps.length 0) [] []=
     some ((stN caps flows (r.toNat+1)).2.1,(stN caps flows (r.toNat+1)).2.2.2.1,(stN caps flows (r.toNat+1)).2.2.2.2.1,(stN caps flows (r.toNat+1)).2.2.2.2.2,(stN caps flows (r.toNat+1)).1,(stN caps flows (r.toNat+1)).2.2.1):=by
    rw [qG]
    refine qt (m:=r.toNat+1) (by omega) (fun n j (s:Stt)=>q7 n ((r.toNat+1:Nat):Int) j 0 caps flows s.2.1 s.2.2.2.1 s.2.2.2.2.1 s.2.2.2.2.2 s.1 s.2.2.1 [] []) (stN caps flows) _ (fun n j hj=>?_) fun n=>?_
    ·show q7 (n+1) _ _ _ _ _ _ _ _ _ _ _ _ _=q7 n _ _ _ _ _ (rdS caps flows (stN caps flows j)).2.1 (rdS caps flows (stN caps flows j)).2.2.2.1 (rdS caps flows (stN caps flows j)).2.2.2.2.1 (rdS caps flows (stN caps flows j)).2.2.2.2.2 (rdS caps flows (stN caps flows j)).1 (rdS caps flows (stN caps flows j)).2.2.1 _ _
     have hv34:=v34_eq hn hfit' (show j<=1000 by omega) (qdc hn hfit' j)
     rw [KG];unfold j8;(repeat rewrite [obE]);rw [qd (show (j:Int) < ((r.toNat+1:Nat):Int) by omega),hv34,up1 (by omega)]
     rfl
    ·show q7 (n+1) _ _ _ _ _ _ _ _ _ _ _ _ _=_
     rw [KG];unfold j8;(repeat rewrite [obE]);rw [qg (show ¬ ((r.toNat+1:Nat):Int) < ((r.toNat+1:Nat):Int) by omega)]
   simp only [cond_true,DT,JM,qf,qe,cond_false]
   unfold Gc GH;(repeat rewrite [obE])
   rw [w1,h32]
   rfl
 rw [Int.toNat_natCast,e36,qd (Int.le_refl _),qd (show (caps.length:Int)<=((2147483648:Nat):Int) by omega)]
 cases fitS caps flows<;>rfl
theorem v21_tot {l:List Int} (hl:l.length<=20) (hb:∀ k,0<=l.getD k 0/\l.getD k 0<=1000000000):v21 l=some (qE l):=by
 have h0:jn FU l 0 0=some (qE l):=by
  refine qt (m:=l.length) (by omega) (fun n j (s:Int)=>jn n l s j) (fun j=>qn j fun t=>l.getD t 0) (qE l) (fun n j hj=>?_) fun n=>?_
  ·show jn (n+1) _ _ _=jn n _ _ _
   have hb1:=qz (n:=j+1) (m:=20) (f:=fun t=>l.getD t 0) (c:=1000000000) (by omega) (fun t _=>hb t) (by omega)
   simp only [qn] at hb1 ⊢
   rw [SJ];unfold G8;rw [qd (show (j:Int) < (l.length:Int) by omega),qd (show (0:Int)<=(j:Int) by omega),up1 (by omega),Int.toNat_natCast,qi (by omega) (by omega)]
  ·show jn (n+1) _ _ _=_
   rw [SJ];unfold G8;rw [qg (show ¬ (l.length:Int) < (l.length:Int) by omega)]
   rfl
 unfold v21 tv21;(repeat rewrite [obE])
 rw [h0];rfl
theorem one_few {C:Int} {f:Nat} (h8:f<=8):Few [C] (qj f) [] []:=by
 have hl:(qj f).length=f:=List.length_replicate
 have hg:∀ i,(qj f).getD i []=[[0]]\/(qj f).getD i []=[]:=fun i=>by
  by_cases hi:i < f
  ·exact .inl (qbD _ _ hi)
  ·exact .inr (out3 (by omega))
 refine ⟨by simp,by omega,by simp,by simp,fun i=>?_,fun i k=>?_,fun i=>by simp⟩
 ·rcases hg i with h | h<;>rw [h]<;>simp
 ·rcases hg i with h | h<;>rw [h]
  ·cases k with
   | zero=>simp
   | succ k=>simp
  ·simp
theorem qbl {C:Int} {f:Nat} (hC:1<=C/\C<=1000) (h1:1<=f) (h8:f<=8) {r:Int} (hr:0<=r/\r<=1000):v14 [C] (qj f) r=some ((qZ [C] (qj f) r).1,(qZ [C] (qj f) r).2.1,(qZ [C] (qj f) r).2.2,0):=by
 rw [v14_eq (one_few h8)]
 unfold qbM
 rw [Gr hC h1 h8,fit_iff.2 (GY hC h1 h8),decide_eq_true hr]
 rfl
theorem l6_0 (r:Int) (a:Bool) (C:List Int) {f:Nat} (h8:f<=8):jT FU r a (f:Int) 0 C []=some (qj f):=by
 refine qt (m:=f) (by omega) (fun n j (s:Fl)=>jT n r a (f:Int) j C s) qj _ (fun n j hj=>?_) fun n=>?_
 ·show jT (n+1) _ _ _ _ _ _=jT n _ _ _ _ _ _
  have e:qj (j+1)=qj j++[[[0]]]:=List.replicate_succ'
  rw [qaW];unfold GZ;rw [qd (show (j:Int) < (f:Int) by omega),up1 (by omega),e]
  rw [qd (show (qj j).length+[[[(0:Int)]]].length<=2147483648 by unfold qj;simp;omega)]
 ·show jT (n+1) _ _ _ _ _ _=_
  rw [qaW];unfold GZ;rw [qg (show ¬ (f:Int) < (f:Int) by omega)]
theorem qce {x m:Int} (hx:0<=x) (hm:0 < m):0<=Int.tmod x m/\Int.tmod x m < m:=by
 rw [Int.tmod_eq_emod_of_nonneg hx]
 exact ⟨Int.emod_nonneg _ (by omega),Int.emod_lt_of_pos _ hm⟩
theorem v6_true {x0 x1:Int} (a:0<=x0/\x0<=65535) (b:0<=x1/\x1<=255) (r:Int):v6 x0 x1 r=some true:=by
 have hv:v10=some true:=rfl
 unfold v6 tv6;(repeat rewrite [obE])
 by_cases c1:r < 0
 ·rw [qd c1]
 rw [qg c1]
 by_cases c2:r > 1000
 ·rw [qd c2]
 rw [qg c2,hv,qe,qi (x:=x0) (by omega) (by omega),qi (x:=x1) (by omega) (by omega)]
 have t0:=qce a.1 (show (0:Int) < 1000 by omega)
 have t1:=qce b.1 (show (0:Int) < 8 by omega)
 obtain ⟨C,hCe⟩:∃ C,C=1+Int.tmod x0 1000:=⟨_,rfl⟩
 obtain ⟨f,hfe⟩:∃ f:Nat,(f:Int)=1+Int.tmod x1 8:=⟨(1+Int.tmod x1 8).toNat,by omega⟩
 rw [<- hCe,<- hfe,qi (x:=C) (by omega) (by omega),qi (x:=(f:Int)) (by omega) (by omega)]
 have hC:1<=C/\C<=1000:=by omega
 have h1:1<=f:=by omega
 have h8:f<=8:=by omega
 have hval:=Gr hC h1 h8
 have hn:=qas hval
 have hfit:=GY hC h1 h8
 have e0:=qbl hC h1 h8 (r:=0) (by omega)
 have er:=qbl hC h1 h8 (r:=r) (by omega)
 have hb0:qZ [C] (qj f) 0=((qv [C] (qj f)).1,(qv [C] (qj f)).2.1,(qv [C] (qj f)).2.2.1):=qap hn hfit hval
 have hbr:(qZ [C] (qj f) r).2.2<=8*f+C:=by
  have h:=qaY hn hfit hval 0 r.toNat
  rw [qap hn hfit hval,Nat.zero_add] at h
  exact Int.le_trans h (one_gap hC h1 h8)
 have hR:=qD (JL hn hfit hval)
 obtain ⟨_,hr2,hp2,_⟩:=KX hR
 have hrl:=(Hn hn hR).1
 rw [jk hC h1 h8] at hrl
 have hrl':(qv [C] (qj f)).1.length=f:=hrl
 have hbd:=qdT hC h1 h8
 have hsc:=gl hn (gk hn (jL 1) hfit) (gj hn (jL 1) hfit)
 have e21:∀ i,i < f->v21 ((qv [C] (qj f)).1.getD i [])=some (1000000*C / f):=fun i hi=>by
  rw [qb4 hn hfit,show w0L ([C]:List Int).length=w0L 1 from rfl,v21_tot (by rw [hsc.rli i (by rw [jk hC h1 h8];exact hi),qY hC h1 h8 hi];decide) (fun k=>hsc.rate i k)]
  exact congrArg some (qca hC h1 h8 hi)
 have w1:wI (1000000*C)=1000000*C:=qi (by omega) (by omega)
 have w2:wI (Int.tdiv (1000000*C) (f:Int))=1000000*C / f:=by
  rw [Int.tdiv_eq_ediv_of_nonneg (by omega)]
  exact qi (by omega) (by have:=Int.ediv_le_self (b:=(f:Int)) (show 0<=1000000*C by omega);omega)
 have hl:jz FU true (f:Int) 0 [C] (qj f) (qv [C] (qj f)).1 (qv [C] (qj f)).2.1 (qv [C] (qj f)).2.2.1 (qZ [C] (qj f) r).1 (qZ [C] (qj f) r).2.1 (qZ [C] (qj f) r).2.2=some true:=by
  refine qt (m:=f) (by omega) (fun n j (s:Bool)=>jz n s (f:Int) j [C] (qj f) (qv [C] (qj f)).1 (qv [C] (qj f)).2.1 (qv [C] (qj f)).2.2.1 (qZ [C] (qj f) r).1 (qZ [C] (qj f) r).2.1 (qZ [C] (qj f) r).2.2) (fun _=>true) _ (fun n i hi=>?_) fun n=>?_
  ·show jz (n+1) _ _ _ _ _ _ _ _ _ _ _=jz n _ _ _ _ _ _ _ _ _ _ _
   rw [Hb];unfold gQ ck;(repeat rewrite [obE]);rw [qd (show (i:Int) < (f:Int) by omega),cond_true,qd (show (0:Int)<=(i:Int) by omega),qd (show (i:Int) < ((qv [C] (qj f)).1.length:Int) by omega),up1 (by omega)]
   simp only [Int.toNat_natCast,e21 i hi,qf,qe,cond_true]
   rw [qd (show (0:Int) < (([C]:List Int).length:Int) by simp),qd (show (f:Int)≠0 by omega),show ([C]:List Int).getD (Int.toNat 0) 0=C from rfl,w1,w2,beq_self_eq_true]
  ·show jz (n+1) _ _ _ _ _ _ _ _ _ _ _=_
   rw [Hb];unfold gQ ck;(repeat rewrite [obE]);rw [qg (show ¬ (f:Int) < (f:Int) by omega)]
 have hle:(((qv [C] (qj f)).1.length:Int) != (f:Int))=false:=by rw [hrl',qb7,decide_eq_true rfl];rfl
 have e84:GX r true (f:Int) [C] (qj f)=some true:=by
  unfold GX JO;(repeat rewrite [obE])
  rw [e0,er,hb0]
  simp only [qf,qe,cond_true]
  rw [show ((0:Int) != 0)=false from rfl,cond_false,cond_false,hle,cond_false,hl]
  simp only [qf,qe,cond_true]
  rw [qd (show (0:Int) < (([C]:List Int).length:Int) by simp),show ([C]:List Int).getD (Int.toNat 0) 0=C from rfl,qi (x:=8*(f:Int)) (by omega) (by omega),qi (x:=8*(f:Int)+C) (by omega) (by omega)]
  exact congrArg some (decide_eq_true hbr)
 rw [l6_0 r true [C] h8]
 simp only [qf,qe,cond_true]
 rw [e84]
 rfl
end Go.Proofs.Ytpfphfobneehmaa
set_option maxRecDepth 100000
namespace Go.Proofs.Ytpfphfobneehmaa
open Go Go.ChangeShapes Go.WideShapes Go.ChangeAt Go.RowKit Go.AM Go.TM
theorem own0:ownKnob Try.prog.godebug=none:=by kernel_rfl
theorem laid0:laidOutB Try.prog=true:=by kernel_rfl
abbrev taus:List Ty:=[.int .u16,.int .u8,.int .i64]
theorem args0 (x:Int×Int×Int×Unit):Ww Try.prog Try.f6.params.toList taus x=[.sc (.int .u16 x.1),.sc (.int .u8 x.2.1),.sc (.int .i64 x.2.2.1)]:=by
 kernel_rfl
theorem law_run:∀ x:Tup taus,InTup taus x->∃ k H',TM.evF Try.prog S167.n dOk k 6 (Ww Try.prog Try.f6.params.toList taus x) []=some ([.sc (.bool true)],H'):=by
 intro x hx
 have h0:0<=(show Int from x.1):=(hx.1).1
 have k0:(show Int from x.1)<=65535:=(hx.1).2
 have h1:0<=(show Int from x.2.1):=(hx.2.1).1
 have k1:(show Int from x.2.1)<=255:=(hx.2.1).2
 have e:=args0 x
 rw [e]
 refine ⟨41,[],(fn_eq (by kernel_rfl)).trans ((ev6 ..).trans (bD ?_))⟩
 exact v6_true ⟨h0,k0⟩ ⟨h1,k1⟩ _
theorem qcw (os:Os) (started:os.Started) (H:Type) (enc:TypeId×Value->H) :
  ReturnsInHanded {} Try.checked os 6 .any (Rows.multiOneLinkSpec.pre6 enc Try.prog Try.f6 Rows.multiOneLinkRow.domain false) (Rows.multiOneLinkSpec.post enc Try.prog Try.f6 false true false false):=
 law_tm (C:=Try.checked) (τs:=taus) (tb:=4) (base:=base) (O:=S167.o) (T:=S167.t) own0 started (by kernel_rfl) Try.func6
  (ChangeSpec.witness6 (enc:=enc) (C:=Try.checked) false ⟨#[],#[.int .u16 0,.int .u8 0,.int .i64 0],[]⟩ 8 (by kernel_rfl) (by kernel_rfl) (by kernel_rfl) (by kernel_rfl))
  laid0 (by kernel_rfl) (by kernel_rfl) rfl (by kernel_rfl) names mixed S167.ok (by kernel_rfl) (by kernel_rfl)
  (fun ds h=>by
   match ds,h with
   | [_,_,_],_=>rfl)
  law_run
theorem multiOneLink_holds:Rows.MultiOneLinkSaid:=
 OpenClaim.holds_of_wide 6 Try.f6 rfl rfl rfl rfl rfl rfl rfl ⟨rfl,rfl,rfl,rfl,rfl⟩ rfl rfl rfl rfl rfl (by kernel_rfl) Try.func6 (by kernel_rfl)
  (of_decide_eq_true (by kernel_rfl)) (by unfold Func.isWrapper;first | (rw [if_pos (by decide +kernel)];kernel_rfl) | (rw [if_neg (by decide +kernel)];exact ⟨rfl,rfl⟩))
  (fun os started H enc _=>qcw os started H enc)
end Go.Proofs.Ytpfphfobneehmaa
