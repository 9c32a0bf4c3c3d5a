/- Networks of paths: rounds. -/
import Derived.Test.YtpfphfobneehmaaLMultiMatchesReference0
set_option linter.all false
namespace Go.Proofs.Ytpfphfobneehmaa
open Go Go.AM Go.TM Go.Proofs
def Gd:List Int->Int
 | []=>0
 | x::l=>l.foldl max x
theorem qdD:∀ (l:List Int) (o:Int),o<=l.foldl max o/\∀ x∈l,x<=l.foldl max o
 | [],o=>⟨Int.le_refl _,fun x hx=>nomatch hx⟩
 | y::l,o=>by
  obtain ⟨h1,h2⟩:=qdD l (max o y)
  refine ⟨by simp only [List.foldl_cons];omega,fun x hx=>?_⟩
  simp only [List.foldl_cons]
  rcases List.mem_cons.1 hx with rfl | hx
  ·omega
  ·exact h2 x hx
theorem maxL_ge:∀ {l:List Int} {x:Int},x∈l->x<=Gd l
 | y::l,x,hx=>by
  obtain ⟨h1,h2⟩:=qdD l y
  rcases List.mem_cons.1 hx with rfl | hx
  ·exact h1
  ·exact h2 x hx
def qQ (caps:List Int) (flows:Fl) (ws:List Int) (i t:Nat):Int:=cond ((chS caps flows ws i).1==(t:Int)) (1000000000*1024 / (chS caps flows ws i).2) 0
def qg (caps:List Int) (flows:Fl) (ws:List Int):List (List Int):=rtT flows (qQ caps flows ws)
def fulS (caps:List Int) (flows:Fl) (ws:List Int) (k:Nat):Int:=
 Int.tdiv (Int.tdiv (qn flows (qg caps flows ws) k*caps.getD (tgS caps flows (qg caps flows ws)) 0) (qn flows (qg caps flows ws) (tgS caps flows (qg caps flows ws)))*1000) (caps.getD k 0)
def nxS (caps:List Int) (flows:Fl) (ws:List Int) (k:Nat):Int:=
 cond (decide (caps.getD k 0 > 0)) (min 1048576 (max 16 (Int.tdiv (ws.getD k 0*(1000+min (fulS caps flows ws k) 1000)) 1500))) (ws.getD k 0)
def nxL (caps:List Int) (flows:Fl) (ws:List Int):List Int:=tab caps.length (nxS caps flows ws)
def mnS (h:List Int) (k:Nat):Int:=max 16 (Int.tdiv (h.getD k 0*1024) (max 1 (Gd h)))
def mnL (h:List Int):List Int:=tab h.length (mnS h)
def jb (flows:Fl) (a b:List (List Int)):List (List Int):=rtT flows fun i t=>rt a i t+rt b i t
def qI (a b:List Int):List Int:=tab a.length fun k=>a.getD k 0+b.getD k 0
abbrev Bst:=List (List Int)×List Int×Int
def qR (o:Bst) (c:Cert):Bst:=cond c.2.2.2 (cond (decide (o.1.length=0)) (c.1,c.2.1,c.2.2.1) (cond (decide (c.2.2.1 < o.2.2)) (c.1,c.2.1,c.2.2.1) o)) o
abbrev Stt:=List Int×List (List Int)×List Int×Bst
def rdS (caps:List Int) (flows:Fl) (s:Stt):Stt:=
 (nxL caps flows s.1,jb flows s.2.1 (qg caps flows s.1),qI s.2.2.1 s.1,
  qR (qR s.2.2.2 (qx caps flows (qg caps flows s.1) s.1)) (qx caps flows (jb flows s.2.1 (qg caps flows s.1)) (mnL (qI s.2.2.1 s.1))))
def w0L (n:Nat):List Int:=tab n fun _=>1024
def stN (caps:List Int) (flows:Fl):Nat->Stt
 | 0=>(w0L caps.length,rtT flows (fun _ _=>0),tab caps.length (fun _=>0),[],[],0)
 | k+1=>rdS caps flows (stN caps flows k)
theorem gD (n:Nat):Wt n (w0L n):=⟨qq _ _,fun k hk=>by unfold w0L;rw [qr _ hk];omega⟩
section
variable {caps : List Int} {flows : Fl} (hn : Nw caps flows) {ws : List Int} (hw : Wt caps.length ws) (hfit : Fit caps flows)
include hn hw hfit
theorem Ge {i:Nat} (hi:i < flows.length):∃ b:Nat,b < (flows.getD i []).length/\qS caps (pth flows i b)=true/\(chS caps flows ws i).1=(b:Int)/\(16<=qs caps flows ws i/\qs caps flows ws i<=6291456)/\(162760<=qQ caps flows ws i b/\qQ caps flows ws i b<=64000000000)/\qQ caps flows ws i b=1024000000000 / qs caps flows ws i/\∀ t:Nat,t≠b->qQ caps flows ws i t=0:=by
 obtain ⟨b,h1,h2,h3,_,_,h4⟩:=HM hn hw hfit hi
 have e1:(chS caps flows ws i).1=(b:Int):=congrArg Prod.fst h3
 have e2:qQ caps flows ws i b=1024000000000 / qs caps flows ws i:=by
  unfold qQ
  rw [e1,beq_self_eq_true];rfl
 refine ⟨b,h1,h2,e1,h4,?_,e2,fun t ht=>?_⟩
 ·rw [e2]
  refine ⟨(Int.le_ediv_iff_mul_le (by omega)).2 (by omega),?_⟩
  have:1024000000000 / qs caps flows ws i < 64000000001:=(Int.ediv_lt_iff_lt_mul (by omega)).2 (by omega)
  omega
 ·unfold qQ
  rw [e1,show ((b:Int)==(t:Int))=false from by rw [qv];exact decide_eq_false (by omega)];rfl
theorem now_bd {i t:Nat} (hi:i < flows.length):0<=qQ caps flows ws i t/\qQ caps flows ws i t<=64000000000:=by
 obtain ⟨b,_,_,_,_,h,_,h0⟩:=Ge hn hw hfit hi
 by_cases c:t=b
 ·rw [c];omega
 ·rw [h0 t c];omega
theorem Gf:Rg caps flows 64000000000 (qg caps flows ws):=by
 refine KO (by omega) (fun i t hi ht=>now_bd hn hw hfit hi) fun i t hi ht h=>?_
 obtain ⟨b,_,hu,_,_,_,_,h0⟩:=Ge hn hw hfit hi
 by_cases c:t=b
 ·rw [c];exact hu
 ·exact absurd (h0 t c) h
theorem G7:Nz flows (qg caps flows ws):=by
 obtain ⟨b,hb,_,_,_,h,_⟩:=Ge hn hw hfit (i:=0) (by have:=hn.f1;omega)
 have hf:=hn.f1
 refine ⟨0,b,by omega,hb,?_⟩
 show 0 < rt (rtT flows _) 0 b
 rw [qF _ (by omega) hb];omega
theorem now_ld {m:Int} (hm:∀ i t,i < flows.length->qQ caps flows ws i t<=m) (hm0:0<=m) (k:Nat):0<=qn flows (qg caps flows ws) k/\qn flows (qg caps flows ws) k<=8*m:=by
 unfold qn
 refine qB hn.f1.2 (fun i hi=>?_) hm0
 obtain ⟨b,hb,_,_,_,h,_,h0⟩:=Ge hn hw hfit hi
 rw [gG hb fun t ht hne=>?_]
 ·rw [show rt (qg caps flows ws) i b=_ from qF _ hi hb]
  have:=hm i b hi
  rcases gI hn hi hb k with e | ⟨e,_⟩<;>rw [e]<;>omega
 ·rw [show rt (qg caps flows ws) i t=_ from qF _ hi ht,h0 t hne]
  rcases gI hn hi ht k with e | ⟨e,_⟩<;>rw [e]
theorem nx_wt:Wt caps.length (nxL caps flows ws):=by
 refine ⟨qq _ _,fun k hk=>?_⟩
 unfold nxL
 rw [qr _ hk]
 unfold nxS
 have:=hw.bd k hk
 cases decide (caps.getD k 0 > 0) with
 | true=>rw [cond_true];omega
 | false=>exact this
end
theorem mn_wt {h:List Int} (h0:∀ k,k < h.length->0<=h.getD k 0):Wt h.length (mnL h):=by
 refine ⟨qq _ _,fun k hk=>?_⟩
 unfold mnL
 rw [qr _ hk]
 unfold mnS
 have h1:=maxL_ge (qT hk 0)
 have h2:=h0 k hk
 have h3:Int.tdiv (h.getD k 0*1024) (max 1 (Gd h))<=1024:=by
  rw [Int.tdiv_eq_ediv_of_nonneg (by omega)]
  have:h.getD k 0*1024 / max 1 (Gd h) < 1025:=(Int.ediv_lt_iff_lt_mul (by omega)).2 (by omega)
  omega
 omega
structure Inv (caps:List Int) (flows:Fl) (k:Nat) (s:Stt):Prop where
 wt:Wt caps.length s.1
 rg:Rg caps flows (k*64000000000) s.2.1
 hl:s.2.2.1.length=caps.length
 hb:∀ j,j < caps.length->0<=s.2.2.1.getD j 0/\s.2.2.1.getD j 0<=k*1048576
 best:s.2.2.2=([],[],0)\/jN caps flows s.2.2.2
theorem qdG {caps:List Int} {flows:Fl} {o:Bst} (h:jN caps flows o):qw caps flows=true/\ja flows o.1=true/\qN caps o.2.1=true/\gy caps flows o.1 o.2.1=true/\o.2.2=max 0 (qH caps o.2.1 - 1000000*(flows.length:Int))/\o.2.2<=1000000000000:=by
 unfold jN gn at h
 cases h1:qw caps flows with
 | false=>rw [h1] at h;exact absurd (congrArg Prod.snd h) (show ¬ (1:Int)=0 by omega)
 | true=>
  cases h2:ja flows o.1 with
  | false=>rw [h1,h2] at h;exact absurd (congrArg Prod.snd h) (show ¬ (1:Int)=0 by omega)
  | true=>
   cases h3:qN caps o.2.1 with
   | false=>rw [h1,h2,h3] at h;exact absurd (congrArg Prod.snd h) (show ¬ (1:Int)=0 by omega)
   | true=>
    cases h4:gy caps flows o.1 o.2.1 with
    | false=>rw [h1,h2,h3,h4] at h;exact absurd (congrArg Prod.snd h) (show ¬ (17:Int)=0 by omega)
    | true=>
     rw [h1,h2,h3,h4] at h
     simp only [Bool.and_self,cond_true] at h
     by_cases c:max 0 (qH caps o.2.1 - 1000000*(flows.length:Int))<=1000000000000
     ·rw [qd c] at h
      have:=congrArg Prod.fst h
      simp only at this
      exact ⟨rfl,rfl,rfl,rfl,by omega,by omega⟩
     ·rw [qe c] at h
      exact absurd (congrArg Prod.snd h) (show ¬ (3:Int)=0 by omega)
theorem qed {caps:List Int} {flows:Fl} (hn:Nw caps flows) {o:Bst} (h:jN caps flows o):o.1.length=flows.length/\o.1.length≠0:=by
 obtain ⟨_,h2,_⟩:=qdG h
 unfold ja at h2
 rw [Bool.and_eq_true] at h2
 have:=of_decide_eq_true h2.1
 have:=hn.f1
 omega
theorem qdI {caps:List Int} {flows:Fl} {o:Bst} {c:Cert} (ho:o=([],[],0)\/jN caps flows o) (hc:c.2.2.2=true->jN caps flows (c.1,c.2.1,c.2.2.1)):qR o c=([],[],0)\/jN caps flows (qR o c):=by
 unfold qR
 cases h:c.2.2.2 with
 | false=>exact ho
 | true=>
  cases decide (o.1.length=0) with
  | true=>exact .inr (hc h)
  | false=>
   cases decide (c.2.2.1 < o.2.2) with
   | true=>exact .inr (hc h)
   | false=>exact ho
theorem qeh {caps:List Int} {flows:Fl} (hn:Nw caps flows) {o:Bst} (c:Cert) (ho:jN caps flows o) (hc:c.2.2.2=true->jN caps flows (c.1,c.2.1,c.2.2.1)):jN caps flows (qR o c)/\(qR o c).2.2<=o.2.2:=by
 have hne:=(qed hn ho).2
 unfold qR
 cases h:c.2.2.2 with
 | false=>exact ⟨ho,Int.le_refl _⟩
 | true=>
  rw [decide_eq_false hne]
  by_cases h2:c.2.2.1 < o.2.2
  ·rw [decide_eq_true h2];exact ⟨hc h,Int.le_of_lt h2⟩
  ·rw [decide_eq_false h2];exact ⟨ho,Int.le_refl _⟩
section
variable {caps : List Int} {flows : Fl} (hn : Nw caps flows) (hfit : Fit caps flows)
include hn hfit
theorem qg5 {k:Nat} {s:Stt} (h:Inv caps flows k s):Rg caps flows (((k+1:Nat):Int)*64000000000) (jb flows s.2.1 (qg caps flows s.1))/\Nz flows (jb flows s.2.1 (qg caps flows s.1)):=by
 have hnow:=Gf hn h.wt hfit
 constructor
 ·refine KO (by omega) (fun i t hi ht=>?_) fun i t hi ht hne=>?_
  ·have h1:=h.rg.rate i t
   have h2:=hnow.rate i t
   omega
  ·by_cases c:rt s.2.1 i t=0
   ·exact hnow.us i t hi ht fun e=>hne (by omega)
   ·exact h.rg.us i t hi ht c
 ·obtain ⟨i,t,hi,ht,hp⟩:=G7 hn h.wt hfit
  refine ⟨i,t,hi,ht,?_⟩
  unfold jb
  rw [qF _ hi ht]
  have:=(h.rg.rate i t).1
  omega
theorem qg4 {k:Nat} {s:Stt} (h:Inv caps flows k s):(qI s.2.2.1 s.1).length=caps.length/\∀ j,j < caps.length->0<=(qI s.2.2.1 s.1).getD j 0/\(qI s.2.2.1 s.1).getD j 0<=((k+1:Nat):Int)*1048576:=by
 refine ⟨by unfold qI;rw [qq,h.hl],fun j hj=>?_⟩
 unfold qI
 rw [qr _ (by rw [h.hl];exact hj)]
 have h1:=h.hb j hj
 have h2:=h.wt.bd j hj
 omega
theorem qhh {k:Nat} {s:Stt} (h:Inv caps flows k s):Inv caps flows (k+1) (rdS caps flows s):=by
 obtain ⟨h1,h2⟩:=qg5 hn hfit h
 obtain ⟨h3,h4⟩:=qg4 hn hfit h
 exact ⟨nx_wt hn h.wt hfit,h1,h3,h4,qdI (qdI h.best jO) jO⟩
theorem qfR:∀ k,Inv caps flows k (stN caps flows k)
 | 0=>⟨gD _,KO (by omega) (fun _ _ _ _=>by omega) (fun _ _ _ _ h=>absurd rfl h),qq _ _,fun j hj=>by
   show 0<=(tab caps.length _).getD j 0/\(tab caps.length _).getD j 0<=_
   rw [qr _ hj];omega,.inl rfl⟩
 | k+1=>qhh hn hfit (qfR k)
end
theorem qeX {caps:List Int} {flows:Fl} (hn:Nw caps flows) {prices:List Int} (hl:prices.length=caps.length) {p:Int} (hp:0<=p) (h:∀ k,k < caps.length->0<=prices.getD k 0*caps.getD k 0/\prices.getD k 0*caps.getD k 0<=p):0<=qH caps prices/\qH caps prices<=8*p:=by
 unfold qH
 exact qB (by rw [hl];exact hn.c1.2) (fun k hk=>h k (by omega)) hp
theorem qaT {caps:List Int} {flows:Fl} (hn:Nw caps flows) {i t:Nat} (hi:i < flows.length) (ht:t < (flows.getD i []).length):qj (pth flows i t) (w0L caps.length)=1024*((pth flows i t).length:Int):=by
 unfold qj
 rw [Gh (g:=fun _=>1024) fun j hj=>?_,KX]
 ·exact Int.mul_comm _ _
 ·have hl:=hn.link i t j hi ht hj
  unfold w0L
  rw [qr _ (by omega)]
section
variable {caps : List Int} {flows : Fl} (hn : Nw caps flows) (hfit : Fit caps flows)
include hn hfit
theorem gQ {i:Nat} (hi:i < flows.length):∃ (b:Nat) (h:Int),b < (flows.getD i []).length/\qS caps (pth flows i b)=true/\(chS caps flows (w0L caps.length) i).1=(b:Int)/\h=((pth flows i b).length:Int)/\(1<=h/\h<=6)/\qs caps flows (w0L caps.length) i=1024*h/\qQ caps flows (w0L caps.length) i b=1000000000 / h/\(166666666<=1000000000 / h/\1000000000 / h<=1000000000):=by
 obtain ⟨b,h1,h2,h3,h4,h5,h6,h7⟩:=Ge hn (gD _) hfit hi
 obtain ⟨b',g1,g2,g3,_⟩:=HM hn (gD _) hfit hi
 have hp:=hn.hop i b hi h1
 have e1:(chS caps flows (w0L caps.length) i).1=(b':Int):=congrArg Prod.fst g3
 have hbb:b'=b:=by omega
 subst hbb
 have e:qs caps flows (w0L caps.length) i=1024*((pth flows i b').length:Int):=(congrArg Prod.snd g3).trans (qaT hn hi h1)
 have hq:1024000000000 / (1024*((pth flows i b').length:Int))=1000000000 / ((pth flows i b').length:Int):=by
  show (1024*1000000000:Int) / _=_
  exact Int.mul_ediv_mul_of_pos (a:=1024) 1000000000 _ (by omega)
 have g4:166666666<=1000000000 / ((pth flows i b').length:Int):=(Int.le_ediv_iff_mul_le (by omega)).2 (by omega)
 have g5:1000000000 / ((pth flows i b').length:Int) < 1000000001:=(Int.ediv_lt_iff_lt_mul (by omega)).2 (by omega)
 refine ⟨b',_,h1,h2,e1,rfl,by omega,e,?_,g4,by omega⟩
 rw [h6,e,hq]
theorem Kt {i:Nat} (hi:i < flows.length):20833<=qo caps flows (qg caps flows (w0L caps.length)) i:=by
 have hw:=gD caps.length
 have hr:=Gf hn hw hfit
 have hz:=G7 hn hw hfit
 have hg:=gE hn hr hz
 obtain ⟨h1,h2,h3,h4,h5⟩:=Gj hn hr hz
 obtain ⟨b,h,hb,_,_,_,hh,_,he,hv⟩:=gQ hn hfit hi
 have hld:=(now_ld hn hw hfit (m:=1000000000) (fun i t hi=>by
  obtain ⟨b,h,hb,_,hc,_,hh,_,he,hv⟩:=gQ hn hfit hi
  by_cases c:t=b
  ·rw [c,he];exact hv.2
  ·obtain ⟨b2,_,_,hc2,_,_,_,h0⟩:=Ge hn hw hfit hi
   rw [h0 t (by omega)];omega) (by omega) (tgS caps flows (qg caps flows (w0L caps.length)))).2
 have h6:rt (scR caps flows (qg caps flows (w0L caps.length))) i b=scS caps flows (qg caps flows (w0L caps.length)) i b:=qF _ hi hb
 have h7:rt (qg caps flows (w0L caps.length)) i b=1000000000 / h:=by rw [<- he];exact qF _ hi hb
 have h8:20833<=scS caps flows (qg caps flows (w0L caps.length)) i b:=by
  unfold scS
  rw [h7]
  refine (Int.le_ediv_iff_mul_le h3).2 ?_
  have:=Int.mul_le_mul (show 166666666<=1000000000 / h by omega) (show 1000000<=1000000*caps.getD (tgS caps flows (qg caps flows (w0L caps.length))) 0 by omega) (by omega) (by omega)
  omega
 have h9:=jQ ((scR caps flows (qg caps flows (w0L caps.length))).getD i []).length (f:=fun t=>((scR caps flows (qg caps flows (w0L caps.length))).getD i []).getD t 0) (i:=b) (by rw [hg.rli i hi];exact hb) (fun t ht=>(hg.rate i t).1)
 have h10:qo caps flows (qg caps flows (w0L caps.length)) i=ql ((scR caps flows (qg caps flows (w0L caps.length))).getD i []).length fun t=>((scR caps flows (qg caps flows (w0L caps.length))).getD i []).getD t 0:=rfl
 have h11:rt (scR caps flows (qg caps flows (w0L caps.length))) i b=((scR caps flows (qg caps flows (w0L caps.length))).getD i []).getD b 0:=rfl
 omega
theorem Jw:gC caps flows (qg caps flows (w0L caps.length))=true:=by
 unfold gC
 refine List.all_eq_true.2 fun i hi=>?_
 have:=Kt hn hfit (List.mem_range.1 hi)
 rw [qv,decide_eq_false (by omega)];rfl
theorem HV {k:Nat} (hk:k < caps.length) (hc:caps.getD k 0≠0):0<=prS caps flows (w0L caps.length) (nmS caps flows (qg caps flows (w0L caps.length)) (w0L caps.length)) k/\prS caps flows (w0L caps.length) (nmS caps flows (qg caps flows (w0L caps.length)) (w0L caps.length)) k<=48001000:=by
 have hw:=gD caps.length
 have hr:=Gf hn hw hfit
 have hz:=G7 hn hw hfit
 refine ⟨qgK hn hw hfit hr hz (Jw hn hfit) k,?_⟩
 obtain ⟨h1,h2,h3,b,hb,he⟩:=qcN hn hw hfit hr hz (Jw hn hfit)
 have ht:=Kt hn hfit hb
 obtain ⟨b',h,_,_,_,_,hh,hl,_⟩:=gQ hn hfit hb
 have hnd:qt (qo caps flows (qg caps flows (w0L caps.length)) b)<=48001000:=by
  unfold qt
  rw [Int.tdiv_eq_ediv_of_nonneg (by omega)]
  have:(1000000000000+qo caps flows (qg caps flows (w0L caps.length)) b - 1) / qo caps flows (qg caps flows (w0L caps.length)) b < 48001001:=(Int.ediv_lt_iff_lt_mul (by omega)).2 (by omega)
  omega
 have hn0:=(Gt (x:=qo caps flows (qg caps flows (w0L caps.length)) b) (by omega)).2.1
 unfold prS
 rw [show (caps.getD k 0==0)=false from by rw [qv];exact decide_eq_false hc,cond_false]
 cases decide (qn flows (qA flows) k > 0) with
 | false=>show (0:Int)<=_;omega
 | true=>
  rw [cond_true,he,hl]
  have hwk:(w0L caps.length).getD k 0=1024:=by unfold w0L;rw [qr _ hk]
  rw [hwk]
  simp only
  generalize qt (qo caps flows (qg caps flows (w0L caps.length)) b)=a at*
  rw [Int.tdiv_eq_ediv_of_nonneg (by omega)]
  have:(a*1024+1024*h - 1) / (1024*h) < a+1:=(Int.ediv_lt_iff_lt_mul (by omega)).2 (by
   have:a*1<=a*h:=Int.mul_le_mul_of_nonneg_left (by omega) (by omega)
   have e:(a+1)*(1024*h)=1024*(a*h)+1024*h:=by rw [Int.add_mul,Int.one_mul,<- Int.mul_assoc,Int.mul_comm a 1024,Int.mul_assoc]
   rw [e];omega)
  omega
theorem qd9 (hv:qw caps flows=true):(qx caps flows (qg caps flows (w0L caps.length)) (w0L caps.length)).2.2.2=true:=by
 have hw:=gD caps.length
 have hr:=Gf hn hw hfit
 have hz:=G7 hn hw hfit
 have hfull:=Jw hn hfit
 unfold qx
 rw [hfull,cond_true]
 unfold gn
 have hP:∀ k,k < caps.length->(prL caps flows (w0L caps.length) (nmS caps flows (qg caps flows (w0L caps.length)) (w0L caps.length))).getD k 0=prS caps flows (w0L caps.length) (nmS caps flows (qg caps flows (w0L caps.length)) (w0L caps.length)) k:=fun k hk=>qr _ hk
 have hpl:(prL caps flows (w0L caps.length) (nmS caps flows (qg caps flows (w0L caps.length)) (w0L caps.length))).length=caps.length:=qq _ _
 have hPb:∀ k,k < caps.length->0<=(prL caps flows (w0L caps.length) (nmS caps flows (qg caps flows (w0L caps.length)) (w0L caps.length))).getD k 0/\(prL caps flows (w0L caps.length) (nmS caps flows (qg caps flows (w0L caps.length)) (w0L caps.length))).getD k 0<=1000000000000:=fun k hk=>by
  rw [hP k hk]
  by_cases c:caps.getD k 0=0
  ·unfold prS
   rw [c];exact ⟨show (0:Int)<=1000000000000 by omega,Int.le_refl _⟩
  ·have:=HV hn hfit hk c
   omega
 have hp:qN caps (prL caps flows (w0L caps.length) (nmS caps flows (qg caps flows (w0L caps.length)) (w0L caps.length)))=true:=by
  unfold qN
  rw [Bool.and_eq_true]
  refine ⟨decide_eq_true hpl,?_⟩
  unfold upto
  rw [<- qD _ (0:Int) fun n=>decide (0<=n/\n<=1000000000000)]
  exact List.all_eq_true.2 fun k hk=>decide_eq_true (hPb k (by have:=List.mem_range.1 hk;omega))
 have hcost:=qeX hn hpl (p:=48001000000) (by omega) (fun k hk=>by
  have hc:=hn.cap k
  rw [hP k hk]
  by_cases c:caps.getD k 0=0
  ·rw [c];simp
  ·have:=HV hn hfit hk c
   refine ⟨Int.mul_nonneg this.1 hc.1,?_⟩
   have:=Int.mul_le_mul this.2 hc.2 hc.1 (by omega)
   omega)
 have hf:=hn.f1
 rw [hv,qid hn hr hz,hp,qeY hn hw hfit hr hz hfull]
 simp only [Bool.and_self,cond_true]
 rw [qd (show max 0 (qH caps (prL caps flows (w0L caps.length) (nmS caps flows (qg caps flows (w0L caps.length)) (w0L caps.length))) - 1000000*(flows.length:Int))<=1000000000000 by omega)]
 rfl
theorem qcs (hv:qw caps flows=true):∀ k,jN caps flows (stN caps flows (k+1)).2.2.2
 | 0=>by
  have h:=qd9 hn hfit hv
  have e:qR ([],[],0) (qx caps flows (qg caps flows (w0L caps.length)) (w0L caps.length))=((qx caps flows (qg caps flows (w0L caps.length)) (w0L caps.length)).1,(qx caps flows (qg caps flows (w0L caps.length)) (w0L caps.length)).2.1,(qx caps flows (qg caps flows (w0L caps.length)) (w0L caps.length)).2.2.1):=by
   unfold qR
   rw [h];rfl
  show jN caps flows (qR (qR ([],[],0) (qx caps flows (qg caps flows (w0L caps.length)) (w0L caps.length))) _)
  rw [e]
  exact (qeh hn _ (jO h) jO).1
 | k+1=>(qeh hn _ (qeh hn _ (qcs hv k) jO).1 jO).1
end
theorem Dp (c:Int):∀ n,(List.replicate n c).foldl max c=c
 | 0=>rfl
 | n+1=>by
  rw [List.replicate_succ,List.foldl_cons,show max c c=c by omega]
  exact Dp c n
theorem qic (c:Int) (n:Nat):Gd (List.replicate (n+1) c)=c:=by
 rw [List.replicate_succ];exact Dp c n
theorem qg7 (n:Nat) (c:Int):tab n (fun _=>c)=List.replicate n c:=by
 apply List.ext_getElem?
 intro k
 by_cases hk:k < n<;>simp [tab,hk,List.getElem?_replicate]
def qy (caps:List Int) (flows:Fl):Cert:=qx caps flows (qg caps flows (w0L caps.length)) (w0L caps.length)
section
variable {caps : List Int} {flows : Fl} (hn : Nw caps flows) (hfit : Fit caps flows)
include hn hfit
theorem qcJ (hv:qw caps flows=true):(stN caps flows 1).2.2.2=((qy caps flows).1,(qy caps flows).2.1,(qy caps flows).2.2.1):=by
 have hc:=hn.c1
 have e1:jb flows (rtT flows fun _ _=>0) (qg caps flows (w0L caps.length))=qg caps flows (w0L caps.length):=by
  unfold jb
  refine (qg3 fun i t hi ht=>?_).trans (rfl:rtT flows (qQ caps flows (w0L caps.length))=_)
  rw [qF _ hi ht,show rt (qg caps flows (w0L caps.length)) i t=qQ caps flows (w0L caps.length) i t from qF _ hi ht];omega
 have e2:qI (tab caps.length fun _=>0) (w0L caps.length)=w0L caps.length:=by
  unfold qI w0L
  rw [qq]
  exact qm fun k hk=>by rw [qr _ hk,qr _ hk];omega
 have e3:mnL (w0L caps.length)=w0L caps.length:=by
  obtain ⟨n,hnn⟩:∃ n,caps.length=n+1:=⟨caps.length - 1,by omega⟩
  have em:Gd (w0L caps.length)=1024:=by unfold w0L;rw [qg7,hnn,qic]
  unfold mnL
  rw [show (w0L caps.length).length=caps.length from qq _ _]
  show tab caps.length (mnS (w0L caps.length))=tab caps.length fun _=>1024
  refine qm fun k hk=>?_
  unfold mnS
  rw [em,show (w0L caps.length).getD k 0=1024 from qr _ hk]
  decide
 have hok:=qd9 hn hfit hv
 have hr:=jO hok
 have hne:=(qed hn hr).2
 show qR (qR ([],[],0) (qx caps flows (qg caps flows (w0L caps.length)) (w0L caps.length))) (qx caps flows (jb flows (rtT flows fun _ _=>0) (qg caps flows (w0L caps.length))) (mnL (qI (tab caps.length fun _=>0) (w0L caps.length))))=_
 rw [e1,e2,e3]
 have e4:qR ([],[],0) (qx caps flows (qg caps flows (w0L caps.length)) (w0L caps.length))=((qy caps flows).1,(qy caps flows).2.1,(qy caps flows).2.2.1):=by
  unfold qR qy
  rw [hok];rfl
 rw [e4]
 unfold qR
 rw [hok,cond_true,decide_eq_false (show ¬ ((qy caps flows).1,(qy caps flows).2.1,(qy caps flows).2.2.1).1.length=0 from hne),cond_false]
 exact qe (Int.lt_irrefl _) _ _
end
theorem v62_eq {caps l:List Int} {flows:Fl} (hl:l.length<=20) (hk:∀ j,j < l.length->0<=l.getD j 0/\l.getD j 0 < (caps.length:Int)):v62 caps flows l=some (qS caps l):=by
 have h0:jL FU l 0 caps flows=some (cond ((List.range l.length).all fun j=>!(caps.getD (l.getD j 0).toNat 0==0)) (.inr ()) (.inl false)):=by
  refine qC (m:=l.length) (by omega) (fun n j=>jL n l j caps flows) _ (fun n j hj=>?_) fun n=>?_
  ·show jL (n+1) _ _ _ _=_
   have hkj:=hk j hj
   rw [qbt];unfold Ko ck;rw [qd (show (j:Int) < (l.length:Int) by omega),qd (show (0:Int)<=(j:Int) by omega),up1 (by omega)]
   simp only [Int.toNat_natCast]
   rw [qd hkj.1,qd hkj.2,qE]
  ·show jL (n+1) _ _ _ _=_
   rw [qbt];unfold Ko ck;rw [qe (show ¬ (l.length:Int) < (l.length:Int) by omega)]
 unfold v62 tv62 qS;(repeat rewrite [obE])
 rw [h0,qD l 0 fun k=>!(caps.getD k.toNat 0==0)]
 cases l.all fun k=>!(caps.getD k.toNat 0==0)<;>rfl
section
variable {caps : List Int} {flows : Fl} (hn : Nw caps flows)
include hn
theorem qeL {i:Nat} (hi:i < flows.length):v35 caps flows (i:Int)=some (chS caps flows (w0L caps.length) i).1:=by
 have h4:=hn.sub i hi
 have h0:j7 FU (i:Int) (-1) 0 caps flows=some (chS caps flows (w0L caps.length) i).1:=by
  refine qp (m:=(flows.getD i []).length) (by omega) (fun n j (s:Int)=>j7 n (i:Int) s j caps flows) (fun j=>(chN caps (flows.getD i []) (w0L caps.length) j).1) _ (fun n j hj=>?_) fun n=>?_
  ·show j7 (n+1) _ _ _ _ _=j7 n _ (chF caps (flows.getD i []) (w0L caps.length) j (chN caps (flows.getD i []) (w0L caps.length) j)).1 _ _ _
   have hp:=hn.hop i j hi hj
   have e:=v62_eq (caps:=caps) (flows:=flows) (l:=(flows.getD i []).getD j []) (show (pth flows i j).length<=20 by omega) (fun x hx=>hn.link i j x hi hj hx)
   have hw:=qaT hn hi hj
   rw [qbg];unfold Kf ck;(repeat rewrite [obE]);rw [qd (show (0:Int)<=(i:Int) by omega),qd (show (i:Int) < (flows.length:Int) by omega)]
   simp only [Int.toNat_natCast]
   rw [qd (show (j:Int) < ((flows.getD i []).length:Int) by omega),qd (show (0:Int)<=(j:Int) by omega),up1 (by omega)]
   simp only [e,qh,qf,cond_true]
   unfold chF
   cases hu:qS caps ((flows.getD i []).getD j []) with
   | false=>rfl
   | true=>
    simp only [cond_true]
    rcases JW caps (flows.getD i []) (w0L caps.length) j with ⟨h1,_⟩ | ⟨b,h1,_,h3,_⟩
    ·rw [h1,qd (show (-1:Int) < 0 by omega),qd (show (-1:Int) < 0 by omega)]
    ·have hwb:=qaT hn hi (show b < (flows.getD i []).length by omega)
     rw [h3]
     simp only
     rw [qe (show ¬ (b:Int) < 0 by omega),qe (show ¬ (b:Int) < 0 by omega),qd (show (0:Int)<=(b:Int) by omega),qd (show (b:Int) < ((flows.getD i []).length:Int) by omega)]
     simp only [Int.toNat_natCast]
     by_cases c:(((flows.getD i []).getD j []).length:Int) < (((flows.getD i []).getD b []).length:Int)
     ·have c':qj ((flows.getD i []).getD j []) (w0L caps.length) < qj ((flows.getD i []).getD b []) (w0L caps.length):=by
       show qj (pth flows i j) _ < qj (pth flows i b) _
       rw [hw,hwb]
       have:((pth flows i j).length:Int) < ((pth flows i b).length:Int):=c
       omega
      rw [qd c,qd c']
     ·have c':¬ qj ((flows.getD i []).getD j []) (w0L caps.length) < qj ((flows.getD i []).getD b []) (w0L caps.length):=by
       show ¬ qj (pth flows i j) _ < qj (pth flows i b) _
       rw [hw,hwb]
       have:¬ ((pth flows i j).length:Int) < ((pth flows i b).length:Int):=c
       omega
      rw [qe c,qe c']
  ·show j7 (n+1) _ _ _ _ _=_
   rw [qbg];unfold Kf ck;(repeat rewrite [obE]);rw [qd (show (0:Int)<=(i:Int) by omega),qd (show (i:Int) < (flows.length:Int) by omega)]
   simp only [Int.toNat_natCast]
   rw [qe (show ¬ ((flows.getD i []).length:Int) < ((flows.getD i []).length:Int) by omega)]
 unfold v35 tv35;(repeat rewrite [obE])
 rw [h0];rfl
end
section
variable {caps : List Int} {flows : Fl} (hn : Nw caps flows) {A R : List (List Int)} {P : List Int} {g : Int} {ws h : List Int}
include hn
theorem qhi {i:Nat} (hi:i < flows.length) (f:Nat->Nat->Int) (hf:∀ i t:Nat,i < flows.length->t < (flows.getD i []).length->v32 (i:Int) (t:Int)=some (f i t)) (out:List (List Int)) :
  jo FU (i:Int) flows (flows.length:Int) (i:Int) ((flows.getD i []).length:Int) 0 caps flows R P g ws h (List.replicate (flows.getD i []).length 0) out=some (tab (flows.getD i []).length (f i)):=by
 have h4:=hn.sub i hi
 have e:List.replicate (flows.getD i []).length (0:Int)=tab (flows.getD i []).length fun t=>if t < 0 then f i t else 0:=(qG _).trans (qm fun t _=>(if_neg (Nat.not_lt_zero t)).symm)
 rw [e]
 refine qp (m:=(flows.getD i []).length) (by omega) (fun n j (s:List Int)=>jo n (i:Int) flows (flows.length:Int) (i:Int) ((flows.getD i []).length:Int) j caps flows R P g ws h s out)
  (fun j=>tab (flows.getD i []).length fun t=>if t < j then f i t else 0) (tab (flows.getD i []).length (f i)) (fun n j hj=>?_) fun n=>?_
 ·show jo (n+1) _ _ _ _ _ _ _ _ _ _ _ _ _ _ _=jo n _ _ _ _ _ _ _ _ _ _ _ _ _ _ _
  have hv:=hf i j hi hj
  rw [Sf];unfold gX ck;rw [qd (show (j:Int) < ((flows.getD i []).length:Int) by omega),up1 (by omega)]
  simp only [hv,qh,qf,cond_true,Int.toNat_natCast,qq]
  rw [qd (show (0:Int)<=(j:Int) by omega),qd (show (j:Int) < ((flows.getD i []).length:Int) by omega),qd hj,qU]
  congr 1
  exact qm fun t ht=>by
   by_cases c:t=j
   ·rw [if_pos c,if_pos (by omega),c]
   ·rw [if_neg c]
    by_cases c2:t < j
    ·rw [if_pos c2,if_pos (by omega)]
    ·rw [if_neg c2,if_neg (by omega)]
 ·show jo (n+1) _ _ _ _ _ _ _ _ _ _ _ _ _ _ _=_
  rw [Sf];unfold gX ck;rw [qe (show ¬ ((flows.getD i []).length:Int) < ((flows.getD i []).length:Int) by omega)]
  exact congrArg some (qm fun t ht=>if_pos ht)
theorem v31_eq (f:Nat->Nat->Int) (hf:∀ i t:Nat,i < flows.length->t < (flows.getD i []).length->v32 (i:Int) (t:Int)=some (f i t)):v31 caps flows R P g ws h=some (rtT flows f):=by
 have hfl:=hn.f1
 have h0:jW FU flows (flows.length:Int) 0 caps flows R P g ws h []=some (rtT flows f):=by
  refine qp (m:=flows.length) (by omega) (fun n j (s:List (List Int))=>jW n flows (flows.length:Int) j caps flows R P g ws h s) (fun j=>(List.range j).map fun i=>tab (flows.getD i []).length (f i)) (rtT flows f) (fun n i hi=>?_) fun n=>?_
  ·show jW (n+1) _ _ _ _ _ _ _ _ _ _ _=jW n _ _ _ _ _ _ _ _ _ _ _
   have h4:=hn.sub i hi
   rw [qa8];unfold Gy ck;(repeat rewrite [obE]);rw [qd (show (i:Int) < (flows.length:Int) by omega),qd (show (0:Int)<=(i:Int) by omega),qd (show (i:Int) < (flows.length:Int) by omega),up1 (by omega)]
   simp only [Int.toNat_natCast,List.length_replicate]
   rw [qd (Int.le_refl _),qd (show ((flows.getD i []).length:Int)<=((2147483648:Nat):Int) by omega),qhi hn hi f hf]
   simp only [qh,qf,cond_true,List.length_map,List.length_range,List.length_cons,List.length_nil]
   rw [qd (show i+(0+1)<=2147483648 by omega),List.range_succ,List.map_append]
   rfl
  ·show jW (n+1) _ _ _ _ _ _ _ _ _ _ _=_
   rw [qa8];unfold Gy ck;(repeat rewrite [obE]);rw [qe (show ¬ (flows.length:Int) < (flows.length:Int) by omega)]
   rfl
 unfold v31 tv31;(repeat rewrite [obE])
 rw [h0];rfl
theorem qhj {i:Nat} (hi:i < flows.length) (f:Nat->Nat->Int) (hf:∀ i t:Nat,i < flows.length->t < (flows.getD i []).length->v55 (i:Int) (t:Int) caps flows A R P g ws h=some (f i t)) (out:List (List Int)) :
  jp FU (i:Int) flows (flows.length:Int) (i:Int) ((flows.getD i []).length:Int) 0 caps flows A R P g ws h (List.replicate (flows.getD i []).length 0) out=some (tab (flows.getD i []).length (f i)):=by
 have h4:=hn.sub i hi
 have e:List.replicate (flows.getD i []).length (0:Int)=tab (flows.getD i []).length fun t=>if t < 0 then f i t else 0:=(qG _).trans (qm fun t _=>(if_neg (Nat.not_lt_zero t)).symm)
 rw [e]
 refine qp (m:=(flows.getD i []).length) (by omega) (fun n j (s:List Int)=>jp n (i:Int) flows (flows.length:Int) (i:Int) ((flows.getD i []).length:Int) j caps flows A R P g ws h s out)
  (fun j=>tab (flows.getD i []).length fun t=>if t < j then f i t else 0) (tab (flows.getD i []).length (f i)) (fun n j hj=>?_) fun n=>?_
 ·show jp (n+1) _ _ _ _ _ _ _ _ _ _ _ _ _ _ _ _=jp n _ _ _ _ _ _ _ _ _ _ _ _ _ _ _ _
  have hv:=hf i j hi hj
  rw [Sg];unfold gY ck;(repeat rewrite [obE]);rw [qd (show (j:Int) < ((flows.getD i []).length:Int) by omega),up1 (by omega)]
  simp only [hv,qh,qf,cond_true,Int.toNat_natCast,qq]
  rw [qd (show (0:Int)<=(j:Int) by omega),qd (show (j:Int) < ((flows.getD i []).length:Int) by omega),qd hj,qU]
  congr 1
  exact qm fun t ht=>by
   by_cases c:t=j
   ·rw [if_pos c,if_pos (by omega),c]
   ·rw [if_neg c]
    by_cases c2:t < j
    ·rw [if_pos c2,if_pos (by omega)]
    ·rw [if_neg c2,if_neg (by omega)]
 ·show jp (n+1) _ _ _ _ _ _ _ _ _ _ _ _ _ _ _ _=_
  rw [Sg];unfold gY ck;(repeat rewrite [obE]);rw [qe (show ¬ ((flows.getD i []).length:Int) < ((flows.getD i []).length:Int) by omega)]
  exact congrArg some (qm fun t ht=>if_pos ht)
theorem qig (f:Nat->Nat->Int) (hf:∀ i t:Nat,i < flows.length->t < (flows.getD i []).length->v55 (i:Int) (t:Int) caps flows A R P g ws h=some (f i t)):K4 caps flows A R P g ws h=some (rtT flows f):=by
 have hfl:=hn.f1
 have h0:jX FU flows (flows.length:Int) 0 caps flows A R P g ws h []=some (rtT flows f):=by
  refine qp (m:=flows.length) (by omega) (fun n j (s:List (List Int))=>jX n flows (flows.length:Int) j caps flows A R P g ws h s) (fun j=>(List.range j).map fun i=>tab (flows.getD i []).length (f i)) (rtT flows f) (fun n i hi=>?_) fun n=>?_
  ·show jX (n+1) _ _ _ _ _ _ _ _ _ _ _ _=jX n _ _ _ _ _ _ _ _ _ _ _ _
   have h4:=hn.sub i hi
   rw [qa9];unfold Gz ck;(repeat rewrite [obE]);rw [qd (show (i:Int) < (flows.length:Int) by omega),qd (show (0:Int)<=(i:Int) by omega),qd (show (i:Int) < (flows.length:Int) by omega),up1 (by omega)]
   simp only [Int.toNat_natCast,List.length_replicate]
   rw [qd (Int.le_refl _),qd (show ((flows.getD i []).length:Int)<=((2147483648:Nat):Int) by omega),qhj hn hi f hf]
   simp only [qh,qf,cond_true,List.length_map,List.length_range,List.length_cons,List.length_nil]
   rw [qd (show i+(0+1)<=2147483648 by omega),List.range_succ,List.map_append]
   rfl
  ·show jX (n+1) _ _ _ _ _ _ _ _ _ _ _ _=_
   rw [qa9];unfold Gz ck;(repeat rewrite [obE]);rw [qe (show ¬ (flows.length:Int) < (flows.length:Int) by omega)]
   rfl
 unfold K4 qcS;(repeat rewrite [obE])
 rw [h0];rfl
theorem qhk {now:List (List Int)} {i:Nat} (hi:i < flows.length) (f:Nat->Nat->Int) (hf:∀ i t:Nat,i < flows.length->t < (flows.getD i []).length->v57 (i:Int) (t:Int) caps flows A R P g ws h now=some (f i t)) (out:List (List Int)) :
  jq FU (i:Int) flows (flows.length:Int) (i:Int) ((flows.getD i []).length:Int) 0 caps flows A R P g ws h now (List.replicate (flows.getD i []).length 0) out=some (tab (flows.getD i []).length (f i)):=by
 have h4:=hn.sub i hi
 have e:List.replicate (flows.getD i []).length (0:Int)=tab (flows.getD i []).length fun t=>if t < 0 then f i t else 0:=(qG _).trans (qm fun t _=>(if_neg (Nat.not_lt_zero t)).symm)
 rw [e]
 refine qp (m:=(flows.getD i []).length) (by omega) (fun n j (s:List Int)=>jq n (i:Int) flows (flows.length:Int) (i:Int) ((flows.getD i []).length:Int) j caps flows A R P g ws h now s out)
  (fun j=>tab (flows.getD i []).length fun t=>if t < j then f i t else 0) (tab (flows.getD i []).length (f i)) (fun n j hj=>?_) fun n=>?_
 ·show jq (n+1) _ _ _ _ _ _ _ _ _ _ _ _ _ _ _ _ _=jq n _ _ _ _ _ _ _ _ _ _ _ _ _ _ _ _ _
  have hv:=hf i j hi hj
  rw [Sh];unfold gZ ck;(repeat rewrite [obE]);rw [qd (show (j:Int) < ((flows.getD i []).length:Int) by omega),up1 (by omega)]
  simp only [hv,qh,qf,cond_true,Int.toNat_natCast,qq]
  rw [qd (show (0:Int)<=(j:Int) by omega),qd (show (j:Int) < ((flows.getD i []).length:Int) by omega),qd hj,qU]
  congr 1
  exact qm fun t ht=>by
   by_cases c:t=j
   ·rw [if_pos c,if_pos (by omega),c]
   ·rw [if_neg c]
    by_cases c2:t < j
    ·rw [if_pos c2,if_pos (by omega)]
    ·rw [if_neg c2,if_neg (by omega)]
 ·show jq (n+1) _ _ _ _ _ _ _ _ _ _ _ _ _ _ _ _ _=_
  rw [Sh];unfold gZ ck;(repeat rewrite [obE]);rw [qe (show ¬ ((flows.getD i []).length:Int) < ((flows.getD i []).length:Int) by omega)]
  exact congrArg some (qm fun t ht=>if_pos ht)
theorem qih {now:List (List Int)} (f:Nat->Nat->Int) (hf:∀ i t:Nat,i < flows.length->t < (flows.getD i []).length->v57 (i:Int) (t:Int) caps flows A R P g ws h now=some (f i t)):K5 caps flows A R P g ws h now=some (rtT flows f):=by
 have hfl:=hn.f1
 have h0:jY FU flows (flows.length:Int) 0 caps flows A R P g ws h now []=some (rtT flows f):=by
  refine qp (m:=flows.length) (by omega) (fun n j (s:List (List Int))=>jY n flows (flows.length:Int) j caps flows A R P g ws h now s) (fun j=>(List.range j).map fun i=>tab (flows.getD i []).length (f i)) (rtT flows f) (fun n i hi=>?_) fun n=>?_
  ·show jY (n+1) _ _ _ _ _ _ _ _ _ _ _ _ _=jY n _ _ _ _ _ _ _ _ _ _ _ _ _
   have h4:=hn.sub i hi
   rw [qba];unfold GA ck;(repeat rewrite [obE]);rw [qd (show (i:Int) < (flows.length:Int) by omega),qd (show (0:Int)<=(i:Int) by omega),qd (show (i:Int) < (flows.length:Int) by omega),up1 (by omega)]
   simp only [Int.toNat_natCast,List.length_replicate]
   rw [qd (Int.le_refl _),qd (show ((flows.getD i []).length:Int)<=((2147483648:Nat):Int) by omega),qhk hn hi f hf]
   simp only [qh,qf,cond_true,List.length_map,List.length_range,List.length_cons,List.length_nil]
   rw [qd (show i+(0+1)<=2147483648 by omega),List.range_succ,List.map_append]
   rfl
  ·show jY (n+1) _ _ _ _ _ _ _ _ _ _ _ _ _=_
   rw [qba];unfold GA ck;(repeat rewrite [obE]);rw [qe (show ¬ (flows.length:Int) < (flows.length:Int) by omega)]
   rfl
 unfold K5 qcT;(repeat rewrite [obE])
 rw [h0];rfl
theorem qhl {rates:List (List Int)} {k:Int} {ld:List Int} {i:Nat} (hi:i < flows.length) (f:Nat->Nat->Int) (hf:∀ i t:Nat,i < flows.length->t < (flows.getD i []).length->v81 (i:Int) (t:Int) rates caps flows A R P g ws h k ld=some (f i t)) (out:List (List Int)) :
  jr FU (i:Int) flows (flows.length:Int) (i:Int) ((flows.getD i []).length:Int) 0 caps flows A R P g ws h rates k ld (List.replicate (flows.getD i []).length 0) out=some (tab (flows.getD i []).length (f i)):=by
 have h4:=hn.sub i hi
 have e:List.replicate (flows.getD i []).length (0:Int)=tab (flows.getD i []).length fun t=>if t < 0 then f i t else 0:=(qG _).trans (qm fun t _=>(if_neg (Nat.not_lt_zero t)).symm)
 rw [e]
 refine qp (m:=(flows.getD i []).length) (by omega) (fun n j (s:List Int)=>jr n (i:Int) flows (flows.length:Int) (i:Int) ((flows.getD i []).length:Int) j caps flows A R P g ws h rates k ld s out)
  (fun j=>tab (flows.getD i []).length fun t=>if t < j then f i t else 0) (tab (flows.getD i []).length (f i)) (fun n j hj=>?_) fun n=>?_
 ·show jr (n+1) _ _ _ _ _ _ _ _ _ _ _ _ _ _ _ _ _ _ _=jr n _ _ _ _ _ _ _ _ _ _ _ _ _ _ _ _ _ _ _
  have hv:=hf i j hi hj
  rw [Si];unfold g8 ck;(repeat rewrite [obE]);rw [qd (show (j:Int) < ((flows.getD i []).length:Int) by omega),up1 (by omega)]
  simp only [hv,qh,qf,cond_true,Int.toNat_natCast,qq]
  rw [qd (show (0:Int)<=(j:Int) by omega),qd (show (j:Int) < ((flows.getD i []).length:Int) by omega),qd hj,qU]
  congr 1
  exact qm fun t ht=>by
   by_cases c:t=j
   ·rw [if_pos c,if_pos (by omega),c]
   ·rw [if_neg c]
    by_cases c2:t < j
    ·rw [if_pos c2,if_pos (by omega)]
    ·rw [if_neg c2,if_neg (by omega)]
 ·show jr (n+1) _ _ _ _ _ _ _ _ _ _ _ _ _ _ _ _ _ _ _=_
  rw [Si];unfold g8 ck;(repeat rewrite [obE]);rw [qe (show ¬ ((flows.getD i []).length:Int) < ((flows.getD i []).length:Int) by omega)]
  exact congrArg some (qm fun t ht=>if_pos ht)
theorem qeI {rates:List (List Int)} {k:Int} {ld:List Int} (f:Nat->Nat->Int) (hf:∀ i t:Nat,i < flows.length->t < (flows.getD i []).length->v81 (i:Int) (t:Int) rates caps flows A R P g ws h k ld=some (f i t)):JL caps flows A R P g ws h rates k ld=some (rtT flows f):=by
 have hfl:=hn.f1
 have h0:jZ FU flows (flows.length:Int) 0 caps flows A R P g ws h rates k ld []=some (rtT flows f):=by
  refine qp (m:=flows.length) (by omega) (fun n j (s:List (List Int))=>jZ n flows (flows.length:Int) j caps flows A R P g ws h rates k ld s) (fun j=>(List.range j).map fun i=>tab (flows.getD i []).length (f i)) (rtT flows f) (fun n i hi=>?_) fun n=>?_
  ·show jZ (n+1) _ _ _ _ _ _ _ _ _ _ _ _ _ _ _=jZ n _ _ _ _ _ _ _ _ _ _ _ _ _ _ _
   have h4:=hn.sub i hi
   rw [qbb];unfold GB ck;(repeat rewrite [obE]);rw [qd (show (i:Int) < (flows.length:Int) by omega),qd (show (0:Int)<=(i:Int) by omega),qd (show (i:Int) < (flows.length:Int) by omega),up1 (by omega)]
   simp only [Int.toNat_natCast,List.length_replicate]
   rw [qd (Int.le_refl _),qd (show ((flows.getD i []).length:Int)<=((2147483648:Nat):Int) by omega),qhl hn hi f hf]
   simp only [qh,qf,cond_true,List.length_map,List.length_range,List.length_cons,List.length_nil]
   rw [qd (show i+(0+1)<=2147483648 by omega),List.range_succ,List.map_append]
   rfl
  ·show jZ (n+1) _ _ _ _ _ _ _ _ _ _ _ _ _ _ _=_
   rw [qbb];unfold GB ck;(repeat rewrite [obE]);rw [qe (show ¬ (flows.length:Int) < (flows.length:Int) by omega)]
   rfl
 unfold JL qcU;(repeat rewrite [obE])
 rw [h0];rfl
theorem qhm {i:Nat} (hi:i < flows.length) (f:Nat->Nat->Int) (hf:∀ i t:Nat,i < flows.length->t < (flows.getD i []).length->v83 (i:Int) (t:Int)=some (f i t)) (out:List (List Int)) :
  js FU (i:Int) flows (flows.length:Int) (i:Int) ((flows.getD i []).length:Int) 0 caps flows A R P g ws h (List.replicate (flows.getD i []).length 0) out=some (tab (flows.getD i []).length (f i)):=by
 have h4:=hn.sub i hi
 have e:List.replicate (flows.getD i []).length (0:Int)=tab (flows.getD i []).length fun t=>if t < 0 then f i t else 0:=(qG _).trans (qm fun t _=>(if_neg (Nat.not_lt_zero t)).symm)
 rw [e]
 refine qp (m:=(flows.getD i []).length) (by omega) (fun n j (s:List Int)=>js n (i:Int) flows (flows.length:Int) (i:Int) ((flows.getD i []).length:Int) j caps flows A R P g ws h s out)
  (fun j=>tab (flows.getD i []).length fun t=>if t < j then f i t else 0) (tab (flows.getD i []).length (f i)) (fun n j hj=>?_) fun n=>?_
 ·show js (n+1) _ _ _ _ _ _ _ _ _ _ _ _ _ _ _ _=js n _ _ _ _ _ _ _ _ _ _ _ _ _ _ _ _
  have hv:=hf i j hi hj
  rw [Sj];unfold g9 ck;rw [qd (show (j:Int) < ((flows.getD i []).length:Int) by omega),up1 (by omega)]
  simp only [hv,qh,qf,cond_true,Int.toNat_natCast,qq]
  rw [qd (show (0:Int)<=(j:Int) by omega),qd (show (j:Int) < ((flows.getD i []).length:Int) by omega),qd hj,qU]
  congr 1
  exact qm fun t ht=>by
   by_cases c:t=j
   ·rw [if_pos c,if_pos (by omega),c]
   ·rw [if_neg c]
    by_cases c2:t < j
    ·rw [if_pos c2,if_pos (by omega)]
    ·rw [if_neg c2,if_neg (by omega)]
 ·show js (n+1) _ _ _ _ _ _ _ _ _ _ _ _ _ _ _ _=_
  rw [Sj];unfold g9 ck;rw [qe (show ¬ ((flows.getD i []).length:Int) < ((flows.getD i []).length:Int) by omega)]
  exact congrArg some (qm fun t ht=>if_pos ht)
theorem qeJ (f:Nat->Nat->Int) (hf:∀ i t:Nat,i < flows.length->t < (flows.getD i []).length->v83 (i:Int) (t:Int)=some (f i t)):JM caps flows A R P g ws h=some (rtT flows f):=by
 have hfl:=hn.f1
 have h0:j4 FU flows (flows.length:Int) 0 caps flows A R P g ws h []=some (rtT flows f):=by
  refine qp (m:=flows.length) (by omega) (fun n j (s:List (List Int))=>j4 n flows (flows.length:Int) j caps flows A R P g ws h s) (fun j=>(List.range j).map fun i=>tab (flows.getD i []).length (f i)) (rtT flows f) (fun n i hi=>?_) fun n=>?_
  ·show j4 (n+1) _ _ _ _ _ _ _ _ _ _ _ _=j4 n _ _ _ _ _ _ _ _ _ _ _ _
   have h4:=hn.sub i hi
   rw [qbc];unfold GC ck;(repeat rewrite [obE]);rw [qd (show (i:Int) < (flows.length:Int) by omega),qd (show (0:Int)<=(i:Int) by omega),qd (show (i:Int) < (flows.length:Int) by omega),up1 (by omega)]
   simp only [Int.toNat_natCast,List.length_replicate]
   rw [qd (Int.le_refl _),qd (show ((flows.getD i []).length:Int)<=((2147483648:Nat):Int) by omega),qhm hn hi f hf]
   simp only [qh,qf,cond_true,List.length_map,List.length_range,List.length_cons,List.length_nil]
   rw [qd (show i+(0+1)<=2147483648 by omega),List.range_succ,List.map_append]
   rfl
  ·show j4 (n+1) _ _ _ _ _ _ _ _ _ _ _ _=_
   rw [qbc];unfold GC ck;(repeat rewrite [obE]);rw [qe (show ¬ (flows.length:Int) < (flows.length:Int) by omega)]
   rfl
 unfold JM qcV;(repeat rewrite [obE])
 rw [h0];rfl
theorem qeU {m:Int} (hm:0<=m) {rates:List (List Int)} {cq:List Int} (hr:Rg cq flows m rates) {i j:Nat} (hi:i < flows.length) (hj:j<=(flows.getD i []).length) (k:Nat):0<=ql j (fun t=>pk (pth flows i t) (rt rates i t) k)/\ql j (fun t=>pk (pth flows i t) (rt rates i t) k)<=4*m:=
 qB (m:=4) (by have:=(hn.sub i hi).2;omega) (fun t ht=>by
  have:=hr.rate i t
  rcases gI hn hi (show t < (flows.getD i []).length by omega) k with h | ⟨h,_⟩<;>rw [h]<;>omega) hm
theorem qeR {m:Int} (hm:0<=m) {rates:List (List Int)} {cq:List Int} (hr:Rg cq flows m rates) {i:Nat} (hi:i<=flows.length) (k:Nat):0<=ql i (fun q=>ql (flows.getD q []).length fun t=>pk (pth flows q t) (rt rates q t) k)/\ql i (fun q=>ql (flows.getD q []).length fun t=>pk (pth flows q t) (rt rates q t) k)<=8*(4*m):=
 qB (m:=8) (by have:=hn.f1.2;omega) (fun q hq=>qeU hn hm hr (by omega) (Nat.le_refl _) k) (by omega)
theorem l60_32 {rates:List (List Int)} {m:Int} (hm:0<=m/\m<=65000000000000) {cq:List Int} (hr:Rg cq flows m rates) {i t:Nat} (hi:i < flows.length) (ht:t < (flows.getD i []).length) (f:Nat->Int) (hf:∀ k,0<=f k/\f k<=3000000000000000) :
  jx FU rates (i:Int) (t:Int) flows (flows.length:Int) (i:Int) (flows.getD i []) ((flows.getD i []).length:Int) (t:Int) (pth flows i t) ((pth flows i t).length:Int) 0 caps flows A R P g ws h (tab caps.length f)=some (tab caps.length fun k=>f k+pk (pth flows i t) (rt rates i t) k):=by
 have hl:=hn.hop i t hi ht
 have hrl:=hr.rli i hi
 have hrt:=hr.rate i t
 have hrr:=hr.rl
 have:=qp (m:=(pth flows i t).length) (by omega) (fun n j (s:List Int)=>jx n rates (i:Int) (t:Int) flows (flows.length:Int) (i:Int) (flows.getD i []) ((flows.getD i []).length:Int) (t:Int) (pth flows i t) ((pth flows i t).length:Int) j caps flows A R P g ws h s)
  (fun j=>tab caps.length fun k=>f k+ql j fun t'=>cond ((pth flows i t).getD t' 0==(k:Int)) (rt rates i t) 0) (tab caps.length fun k=>f k+pk (pth flows i t) (rt rates i t) k) (fun n j hj=>?_) fun n=>?_
 ·simp only [ql,Int.add_zero] at this
  exact this
 ·show jx (n+1) _ _ _ _ _ _ _ _ _ _ _ _ _ _ _ _ _ _ _ _ _=jx n _ _ _ _ _ _ _ _ _ _ _ _ _ _ _ _ _ _ _ _ _
  have hk:=hn.link i t j hi ht hj
  obtain ⟨p,hp⟩:∃ p:Nat,(pth flows i t).getD j 0=(p:Int):=⟨Int.toNat ((pth flows i t).getD j 0),by omega⟩
  have hpc:p < caps.length:=by omega
  rw [Su];unfold Jq ck;rw [qd (show (j:Int) < ((pth flows i t).length:Int) by omega),qd (show (0:Int)<=(j:Int) by omega),qd (show (j:Int) < ((pth flows i t).length:Int) by omega),up1 (by omega)]
  simp only [Int.toNat_natCast,hp,qq]
  rw [qd (show (0:Int)<=(p:Int) by omega),qd (show (p:Int) < (caps.length:Int) by omega),qd hpc,qd (show (0:Int)<=(i:Int) by omega),qd (show (i:Int) < (rates.length:Int) by omega),qd (show (0:Int)<=(t:Int) by omega),qd (show (t:Int) < ((rates.getD i []).length:Int) by omega),qr _ hpc,qU]
  congr 1
  apply qm
  intro k hkc
  have hb:=qB (n:=j) (m:=6) (f:=fun t'=>cond ((pth flows i t).getD t' 0==(p:Int)) (rt rates i t) 0) (c:=65000000000000) (by omega) (fun t' _=>by
   cases ((pth flows i t).getD t' 0==(p:Int)) with
   | true=>exact ⟨hrt.1,by show rt rates i t<=_;omega⟩
   | false=>exact ⟨Int.le_refl _,by show (0:Int)<=_;omega⟩) (by omega)
  have hfp:=hf p
  rw [qdj,hp]
  by_cases hkp:k=p
  ·subst hkp
   have e:(rates.getD i []).getD t 0=rt rates i t:=rfl
   rw [if_pos rfl,e,qi (by omega) (by omega),beq_self_eq_true,cond_true]
   omega
  ·rw [if_neg hkp,show ((p:Int)==(k:Int))=false from beq_false_of_ne (by omega),cond_false,Int.add_zero]
 ·show jx (n+1) _ _ _ _ _ _ _ _ _ _ _ _ _ _ _ _ _ _ _ _ _=_
  rw [Su];unfold Jq ck;rw [qe (show ¬ ((pth flows i t).length:Int) < ((pth flows i t).length:Int) by omega)]
  rfl
theorem l60_16 {rates:List (List Int)} {m:Int} (hm:0<=m/\m<=65000000000000) {cq:List Int} (hr:Rg cq flows m rates) {i:Nat} (hi:i < flows.length) :
  jw FU rates (i:Int) flows (flows.length:Int) (i:Int) (flows.getD i []) ((flows.getD i []).length:Int) 0 caps flows A R P g ws h (Ld caps flows rates i 0)=some (Ld caps flows rates i (flows.getD i []).length):=by
 have h4:=hn.sub i hi
 refine qp (m:=(flows.getD i []).length) (by omega) (fun n j (s:List Int)=>jw n rates (i:Int) flows (flows.length:Int) (i:Int) (flows.getD i []) ((flows.getD i []).length:Int) j caps flows A R P g ws h s)
  (fun j=>Ld caps flows rates i j) (Ld caps flows rates i (flows.getD i []).length) (fun n j hj=>?_) fun n=>?_
 ·show jw (n+1) _ _ _ _ _ _ _ _ _ _ _ _ _ _ _ _ _=jw n _ _ _ _ _ _ _ _ _ _ _ _ _ _ _ _ _
  have e:=l60_32 hn (A:=A) (R:=R) (P:=P) (g:=g) (ws:=ws) (h:=h) hm hr hi hj (fun k=>ql i (fun q=>ql (flows.getD q []).length fun t=>pk (pth flows q t) (rt rates q t) k)+ql j fun t=>pk (pth flows i t) (rt rates i t) k) (fun k=>by
   have h1:=qeU hn hm.1 hr hi (Nat.le_of_lt hj) k
   have h2:=qeR hn hm.1 hr (Nat.le_of_lt hi) k
   omega)
  have e2:(tab caps.length fun k=>ql i (fun q=>ql (flows.getD q []).length fun t=>pk (pth flows q t) (rt rates q t) k)+ql j (fun t=>pk (pth flows i t) (rt rates i t) k)+pk (pth flows i j) (rt rates i j) k)=Ld caps flows rates i (j+1):=qm fun k hk=>by
   simp only [ql];omega
  rw [Ss];unfold Gb ck;(repeat rewrite [obE]);rw [qd (show (j:Int) < ((flows.getD i []).length:Int) by omega),qd (show (0:Int)<=(j:Int) by omega),qd (show (j:Int) < ((flows.getD i []).length:Int) by omega),up1 (by omega)]
  simp only [Int.toNat_natCast]
  rw [show Ld caps flows rates i j=tab caps.length _ from rfl,e,e2]
  rfl
 ·show jw (n+1) _ _ _ _ _ _ _ _ _ _ _ _ _ _ _ _ _=_
  rw [Ss];unfold Gb ck;(repeat rewrite [obE]);rw [qe (show ¬ ((flows.getD i []).length:Int) < ((flows.getD i []).length:Int) by omega)]
theorem SG {rates:List (List Int)} {m:Int} (hm:0<=m/\m<=65000000000000) {cq:List Int} (hr:Rg cq flows m rates):v60 rates caps flows A R P g ws h=some (ldL caps flows rates):=by
 have hf:=hn.f1
 have hc:=hn.c1
 have e1:List.replicate caps.length (0:Int)=Ld caps flows rates 0 0:=qG _
 have e3:Ld caps flows rates flows.length 0=ldL caps flows rates:=qm fun k _=>Int.add_zero _
 have h0:gd FU rates flows (flows.length:Int) 0 caps flows A R P g ws h (Ld caps flows rates 0 0)=some (Ld caps flows rates flows.length 0):=by
  refine qp (m:=flows.length) (by omega) (fun n j (s:List Int)=>gd n rates flows (flows.length:Int) j caps flows A R P g ws h s) (fun j=>Ld caps flows rates j 0) (Ld caps flows rates flows.length 0) (fun n i hi=>?_) fun n=>?_
  ·show gd (n+1) _ _ _ _ _ _ _ _ _ _ _ _ _=gd n _ _ _ _ _ _ _ _ _ _ _ _ _
   rw [qbr];unfold GI ck;(repeat rewrite [obE]);rw [qd (show (i:Int) < (flows.length:Int) by omega),qd (show (0:Int)<=(i:Int) by omega),qd (show (i:Int) < (flows.length:Int) by omega),up1 (by omega)]
   simp only [Int.toNat_natCast]
   rw [l60_16 hn hm hr hi]
   simp only [cond_true,qh,qf]
   rw [qeQ]
  ·show gd (n+1) _ _ _ _ _ _ _ _ _ _ _ _ _=_
   rw [qbr];unfold GI ck;(repeat rewrite [obE]);rw [qe (show ¬ (flows.length:Int) < (flows.length:Int) by omega)]
 unfold v60 tv60;(repeat rewrite [obE])
 rw [Int.toNat_natCast,e1,h0,qd (Int.le_refl _),qd (show (caps.length:Int)<=((2147483648:Nat):Int) by omega),e3]
 rfl
theorem qeO {ld:List Int} (hl:ld.length=caps.length) (hb:∀ k,0<=ld.getD k 0/\ld.getD k 0<=3000000000000000):v61 ld caps flows A R P g ws h=some (tgN caps ld caps.length):=by
 have hc:=hn.c1
 have h0:ge FU ld (-1) ld (ld.length:Int) 0 caps flows A R P g ws h=some (tgN caps ld caps.length):=by
  refine qp (m:=caps.length) (by omega) (fun n j (s:Int)=>ge n ld s ld (ld.length:Int) j caps flows A R P g ws h) (tgN caps ld) (tgN caps ld caps.length) (fun n k hk=>?_) fun n=>?_
  ·show ge (n+1) _ _ _ _ _ _ _ _ _ _ _ _ _=ge n _ (tgF caps ld k (tgN caps ld k)) _ _ _ _ _ _ _ _ _ _ _
   have hs:=K3 caps ld k
   rw [qbs];unfold Kn ck;rw [qd (show (k:Int) < (ld.length:Int) by omega),qd (show (0:Int)<=(k:Int) by omega),qd (show (k:Int) < (ld.length:Int) by omega),up1 (by omega)]
   simp only [Int.toNat_natCast]
   unfold tgF
   by_cases c:ld.getD k 0 > 0
   ·rw [qd c,qd c]
    rcases hs with ⟨h1,_⟩ | ⟨b,h1,h2,_,_⟩
    ·rw [h1,qd (show (-1:Int) < 0 by omega),qd (show (-1:Int) < 0 by omega)]
    ·have hb1:=hb k
     have hb2:=hb b
     have hc1:=hn.cap k
     have hc2:=hn.cap b
     have p1:=Int.mul_le_mul hc1.2 hb2.2 hb2.1 (by omega)
     have p2:=Int.mul_le_mul hc2.2 hb1.2 hb1.1 (by omega)
     have p3:=Int.mul_nonneg hc1.1 hb2.1
     have p4:=Int.mul_nonneg hc2.1 hb1.1
     rw [h2,qe (show ¬ (b:Int) < 0 by omega),qe (show ¬ (b:Int) < 0 by omega),qd (show (k:Int) < (caps.length:Int) by omega),qd (show (0:Int)<=(b:Int) by omega),qd (show (b:Int) < (ld.length:Int) by omega),qd (show (b:Int) < (caps.length:Int) by omega),Int.toNat_natCast]
     have w1:wI (caps.getD k 0*ld.getD b 0)=caps.getD k 0*ld.getD b 0:=qi (by omega) (by omega)
     have w2:wI (caps.getD b 0*ld.getD k 0)=caps.getD b 0*ld.getD k 0:=qi (by omega) (by omega)
     simp only [w1,w2]
     cases decide (caps.getD k 0*ld.getD b 0 < caps.getD b 0*ld.getD k 0)<;>rfl
   ·rw [qe c,qe c]
  ·show ge (n+1) _ _ _ _ _ _ _ _ _ _ _ _ _=_
   rw [qbs];unfold Kn ck;rw [qe (show ¬ (caps.length:Int) < (ld.length:Int) by omega)]
 unfold v61 tv61;(repeat rewrite [obE])
 rw [h0];rfl
end
theorem qhe {l:List Int} (hl:l.length<=20) (hb:∀ k,0<=l.getD k 0/\l.getD k 0<=1000000000):v82 l=some (qu l):=by
 have h0:gm FU 0 l (l.length:Int) 0=some (qu l):=by
  refine qp (m:=l.length) (by omega) (fun n j (s:Int)=>gm n s l (l.length:Int) j) (fun j=>ql j fun t=>l.getD t 0) (qu l) (fun n j hj=>?_) fun n=>?_
  ·show gm (n+1) _ _ _ _=gm n _ _ _ _
   have hb1:=qB (n:=j+1) (m:=20) (f:=fun t=>l.getD t 0) (c:=1000000000) (by omega) (fun t _=>hb t) (by omega)
   have hs:ql (j+1) (fun t=>l.getD t 0)=ql j (fun t=>l.getD t 0)+l.getD j 0:=rfl
   rw [qbE];unfold GT ck;rw [qd (show (j:Int) < (l.length:Int) by omega),qd (show (0:Int)<=(j:Int) by omega),qd (show (j:Int) < (l.length:Int) by omega),up1 (by omega),Int.toNat_natCast,<- hs,qi (by omega) (by omega)]
  ·show gm (n+1) _ _ _ _=_
   rw [qbE];unfold GT ck;rw [qe (show ¬ (l.length:Int) < (l.length:Int) by omega)]
   rfl
 unfold v82 tv82;(repeat rewrite [obE])
 rw [h0];rfl
theorem v59_eq {l:List Int} (h0:1<=l.length) (h1:l.length<=20):v59 l=some (Gd l):=by
 cases l with
 | nil=>simp at h0
 | cons a l=>
  have hll:l.length<=20:=by simp at h1;omega
  have key:∀ (k n i:Nat) (s:Int),i+k=l.length->k < n->JO n (a::l) s ((i+1:Nat):Int)=some ((l.drop i).foldl max s):=by
   intro k
   induction k with
   | zero=>
    intro n i s h1 h2
    cases n with
    | zero=>omega
    | succ n=>
     rw [qbq];unfold Km;rw [qe (show ¬ ((i+1:Nat):Int) < ((a::l).length:Int) by simp only [List.length_cons];omega),List.drop_eq_nil_of_le (by omega)]
     rfl
   | succ k ih=>
    intro n i s h1 h2
    cases n with
    | zero=>omega
    | succ n=>
     rw [qbq];unfold Km;rw [qd (show ((i+1:Nat):Int) < ((a::l).length:Int) by simp only [List.length_cons];omega),qd (show (0:Int)<=((i+1:Nat):Int) by omega),up1 (by omega)]
     simp only [Int.toNat_natCast]
     rw [ih n (i+1) _ (by omega) (by omega),Ku (i:=i) (by omega) 0]
     rfl
  have h:=key l.length FU 0 a (by omega) (by unfold FU;omega)
  unfold v59 tv59;(repeat rewrite [obE])
  rw [show (a::l).getD (Int.toNat 0) 0=a from rfl,show (1:Int)=((0+1:Nat):Int) from rfl,h,qe (show ¬ ((a::l).length:Int) < ((0+1:Nat):Int) by simp only [List.length_cons];omega),qd (show (0:Int) < ((a::l).length:Int) by simp only [List.length_cons];omega)]
  rfl
theorem qdH {m:Nat} (hm:m<=9223372036854775807) {σ:Type} (F:Nat->Int->σ->Option (Bool ⊕ σ)) (g:Nat->σ) (z:Nat->Bool)
  (step:∀ n i,i < m->F (n+1) (i:Int) (g i)=cond (z i) (some (.inl false)) (F n ((i+1:Nat):Int) (g (i+1)))) (fin:∀ n,F (n+1) (m:Int) (g m)=some (.inr (g m))) :
  F FU 0 (g 0)=some (cond ((List.range m).all fun i=>!z i) (.inr (g m)) (.inl false)):=by
 have key:∀ k i n,i+k=m->k < n->F n (i:Int) (g i)=some (cond ((List.range m).all fun j=>decide (j < i)||!z j) (.inr (g m)) (.inl false)):=by
  intro k
  induction k with
  | zero=>
   intro i n h1 h2
   cases n with
   | zero=>omega
   | succ n=>
    have e:((List.range m).all fun j=>decide (j < i)||!z j)=true:=List.all_eq_true.2 fun j hj=>by
     have:=List.mem_range.1 hj
     rw [decide_eq_true (show j < i by omega)];rfl
    rw [e,show i=m by omega,fin];rfl
  | succ k ih=>
   intro i n h1 h2
   cases n with
   | zero=>omega
   | succ n=>
    rw [step n i (by omega)]
    cases hz:z i with
    | true=>
     have e:((List.range m).all fun j=>decide (j < i)||!z j)=false:=List.all_eq_false.2 ⟨i,List.mem_range.2 (by omega),by rw [hz,decide_eq_false (Nat.lt_irrefl i)];decide⟩
     rw [e];rfl
    | false=>
     rw [cond_false,ih (i+1) n (by omega) (by omega)]
     have e:(fun j=>decide (j < i+1)||!z j)=fun j=>decide (j < i)||!z j:=by
      funext j
      by_cases c:j=i
      ·rw [c,hz,decide_eq_true (show i < i+1 by omega)];simp
      ·by_cases c2:j < i
       ·rw [decide_eq_true c2,decide_eq_true (show j < i+1 by omega)]
       ·rw [decide_eq_false c2,decide_eq_false (show ¬ j < i+1 by omega)]
     rw [e]
 have h:=key m 0 FU (by omega) (by unfold FU;omega)
 have e:(fun j=>decide (j < 0)||!z j)=fun j=>!z j:=by
  funext j
  rw [decide_eq_false (Nat.not_lt_zero j)];rfl
 rw [e] at h
 exact h
theorem qaQ {x:Int} (hx:0<=x):0<=qt x/\qt x<=1000000000000:=by
 by_cases c:x=0
 ·subst c
  unfold qt
  rw [Int.tdiv_zero];omega
 ·have:=Gt (x:=x) (by omega)
  omega
theorem qeb {x l:Nat->Int} {m:Nat} (hx:∀ i,i < m->0<=x i) (hl:∀ i,i < m->1<=l i/\l i<=6291456):∀ j,j<=m->(0<=(nmN x l j).1/\(nmN x l j).1<=1000000000000)/\(1<=(nmN x l j).2/\(nmN x l j).2<=6291456)
 | 0,_=>⟨⟨Int.le_refl _,by show (0:Int)<=_;omega⟩,⟨Int.le_refl _,by show (1:Int)<=_;omega⟩⟩
 | j+1,hj=>by
  have ih:=qeb hx hl j (by omega)
  have h1:=qaQ (hx j (by omega))
  have h2:=hl j (by omega)
  show (0<=(nmF (x j) (l j) (nmN x l j)).1/\(nmF (x j) (l j) (nmN x l j)).1<=_)/\(1<=(nmF (x j) (l j) (nmN x l j)).2/\(nmF (x j) (l j) (nmN x l j)).2<=_)
  unfold nmF
  cases decide ((nmN x l j).1*l j < qt (x j)*(nmN x l j).2) with
  | true=>exact ⟨h1,h2⟩
  | false=>exact ih
theorem HP {caps:List Int} {flows:Fl} (hn:Nw caps flows) {m:Int} {rates:List (List Int)} (hr:Rg caps flows m rates) (hz:Nz flows rates) {i:Nat} (hi:i < flows.length):0<=qo caps flows rates i/\qo caps flows rates i<=4000000000:=by
 have hg:=gE hn hr hz
 have h3:=qB (n:=((scR caps flows rates).getD i []).length) (m:=4) (f:=fun t=>((scR caps flows rates).getD i []).getD t 0) (c:=1000000000) (by rw [hg.rli i hi];exact (hn.sub i hi).2) (fun t ht=>hg.rate i t) (by omega)
 have h4:qo caps flows rates i=ql ((scR caps flows rates).getD i []).length fun t=>((scR caps flows rates).getD i []).getD t 0:=rfl
 omega
theorem DY {caps:List Int} {flows:Fl} (hn:Nw caps flows) {rates:List (List Int)} {prices:List Int} (h1:rates.length=flows.length) (h2:∀ i,i < flows.length->(rates.getD i []).length=(flows.getD i []).length) (h3:prices.length<=20):Few caps flows rates prices:=by
 have hf:=hn.f1
 have hc:=hn.c1
 refine ⟨by omega,by omega,by omega,h3,fun i=>?_,fun i k=>?_,fun i=>?_⟩
 ·by_cases hi:i < flows.length
  ·have:=hn.sub i hi;omega
  ·rw [out3 (by omega)];simp
 ·by_cases hi:i < flows.length
  ·by_cases hk:k < (flows.getD i []).length
   ·have:=hn.hop i k hi hk
    show (pth flows i k).length<=20
    omega
   ·rw [out2 (f:=flows.getD i []) (by omega)];simp
  ·rw [out3 (by omega)];simp
 ·by_cases hi:i < flows.length
  ·have:=hn.sub i hi
   rw [h2 i hi];omega
  ·rw [out2 (by omega)];simp
section
variable {caps : List Int} {flows : Fl} (hn : Nw caps flows) {A R : List (List Int)} {P : List Int} {g : Int} {ws h : List Int}
include hn
theorem qii {w:List Int} (hw:Wt caps.length w) {i:Nat} (hi:i < flows.length):HQ (i:Int) w caps flows A R P g ws h=some (chS caps flows w i):=by
 have h4:=hn.sub i hi
 have h0:j6 FU w (-1) 0 (flows.getD i []) ((flows.getD i []).length:Int) 0 caps flows A R P g ws h=some (chS caps flows w i):=by
  refine qp (m:=(flows.getD i []).length) (by omega) (fun n j (s:Int×Int)=>j6 n w s.1 s.2 (flows.getD i []) ((flows.getD i []).length:Int) j caps flows A R P g ws h)
   (chN caps (flows.getD i []) w) (chS caps flows w i) (fun n j hj=>?_) fun n=>?_
  ·show j6 (n+1) _ _ _ _ _ _ _ _ _ _ _ _ _ _=j6 n _ (chF caps (flows.getD i []) w j (chN caps (flows.getD i []) w j)).1 (chF caps (flows.getD i []) w j (chN caps (flows.getD i []) w j)).2 _ _ _ _ _ _ _ _ _ _ _
   have hp:=hn.hop i j hi hj
   rw [qbe];unfold GE ck;(repeat rewrite [obE]);rw [qd (show (j:Int) < ((flows.getD i []).length:Int) by omega),qd (show (0:Int)<=(j:Int) by omega),qd (show (j:Int) < ((flows.getD i []).length:Int) by omega),up1 (by omega)]
   have e1:=qeH (l:=(flows.getD i []).getD j []) (w:=w) (show (pth flows i j).length<=20 by omega) (fun x hx=>by rw [hw.len];exact hn.link i j x hi hj hx) (fun k=>by have:=hw.nn k;omega)
   have e2:=qhd (l:=(flows.getD i []).getD j []) (caps:=caps) (show (pth flows i j).length<=20 by omega) (fun x hx=>hn.link i j x hi hj hx) (flows:=flows) (A:=A) (R:=R) (P:=P) (g:=g) (w:=ws) (h:=h)
   simp only [Int.toNat_natCast,e1,e2,qh,qf,cond_true]
   unfold chF
   cases qS caps ((flows.getD i []).getD j []) with
   | false=>rfl
   | true=>
    simp only [cond_true]
    cases decide ((chN caps (flows.getD i []) w j).1 < 0) with
    | true=>rfl
    | false=>cases decide (qj ((flows.getD i []).getD j []) w < (chN caps (flows.getD i []) w j).2)<;>rfl
  ·show j6 (n+1) _ _ _ _ _ _ _ _ _ _ _ _ _ _=_
   rw [qbe];unfold GE ck;(repeat rewrite [obE]);rw [qe (show ¬ ((flows.getD i []).length:Int) < ((flows.getD i []).length:Int) by omega)]
 unfold HQ qcW ck;(repeat rewrite [obE])
 rw [qd (show (0:Int)<=(i:Int) by omega),qd (show (i:Int) < (flows.length:Int) by omega),Int.toNat_natCast,h0]
 rfl
theorem l75_0_0 (hw:Wt caps.length ws) (hfit:Fit caps flows) {m:Int} (hm:0<=m/\m<=65000000000000) {rates:List (List Int)} (hr:Rg caps flows m rates) (hz:Nz flows rates) {a b:Int} {c e:List Int} {d:List (List Int)} :
  jg FU 0 1 (scR caps flows rates) ((scR caps flows rates).length:Int) 0 a (scR caps flows rates) b caps flows A R P g ws h c d e=some (cond (gC caps flows rates) (.inr (nmS caps flows rates ws)) (.inl false)):=by
 have hg:=gE hn hr hz
 have hf:=hn.f1
 have hx:∀ i,i < flows.length->0<=qo caps flows rates i:=fun i hi=>(HP hn hr hz hi).1
 have hl:∀ i,i < flows.length->1<=qs caps flows ws i/\qs caps flows ws i<=6291456:=fun i hi=>by
  obtain ⟨b,_,_,_,_,_,h⟩:=HM hn hw hfit hi
  omega
 refine qdH (m:=flows.length) (by omega) (fun n i (s:Int×Int)=>jg n s.1 s.2 (scR caps flows rates) ((scR caps flows rates).length:Int) i a (scR caps flows rates) b caps flows A R P g ws h c d e) (nmN (qo caps flows rates) (qs caps flows ws)) (fun i=>qo caps flows rates i==0) (fun n i hi=>?_) fun n=>?_
 ·show jg (n+1) _ _ _ _ _ _ _ _ _ _ _ _ _ _ _ _ _ _ _=cond _ _ (jg n (nmF (qo caps flows rates i) (qs caps flows ws i) (nmN (qo caps flows rates) (qs caps flows ws) i)).1 (nmF (qo caps flows rates i) (qs caps flows ws i) (nmN (qo caps flows rates) (qs caps flows ws) i)).2 _ _ _ _ _ _ _ _ _ _ _ _ _ _ _ _ _)
  have hrl:=hg.rl
  have hri:=hg.rli i hi
  have h4:=hn.sub i hi
  have e1:v82 ((scR caps flows rates).getD i [])=some (qo caps flows rates i):=qhe (by omega) (fun k=>hg.rate i k)
  have e2:=qeK hn hw hi (A:=A) (R:=R) (P:=P) (g:=g) (h:=h)
  have hnb:=qeb hx hl i (by omega)
  have hxi:=HP hn hr hz hi
  have hli:=hl i hi
  have hni:=qaQ hxi.1
  rw [qbu];unfold GJ ck;(repeat rewrite [obE]);rw [qd (show (i:Int) < ((scR caps flows rates).length:Int) by omega),qd (show (0:Int)<=(i:Int) by omega),qd (show (i:Int) < ((scR caps flows rates).length:Int) by omega),up1 (by omega)]
  simp only [Int.toNat_natCast,e1,e2,qh,qf,cond_true]
  by_cases c0:qo caps flows rates i=0
  ·rw [show (qo caps flows rates i==0)=true from by rw [qv];exact decide_eq_true c0];rfl
  rw [show (qo caps flows rates i==0)=false from by rw [qv];exact decide_eq_false c0,cond_false,cond_false,qd (show qo caps flows rates i≠0 from c0)]
  have el:(chS caps flows ws i).2=qs caps flows ws i:=rfl
  have w1:wI (1000000000000+qo caps flows rates i)=1000000000000+qo caps flows rates i:=qi (by omega) (by omega)
  have w2:wI (1000000000000+qo caps flows rates i - 1)=1000000000000+qo caps flows rates i - 1:=qi (by omega) (by omega)
  have w3:wI (Int.tdiv (1000000000000+qo caps flows rates i - 1) (qo caps flows rates i))=qt (qo caps flows rates i):=qi (x:=qt (qo caps flows rates i)) (by omega) (by omega)
  have p1:=Int.mul_le_mul hnb.1.2 hli.2 (by omega) (by omega)
  have p2:=Int.mul_nonneg hnb.1.1 (show 0<=qs caps flows ws i by omega)
  have p3:=Int.mul_le_mul hni.2 hnb.2.2 (by omega) (by omega)
  have p4:=Int.mul_nonneg hni.1 (show 0<=(nmN (qo caps flows rates) (qs caps flows ws) i).2 by omega)
  have w4:wI ((nmN (qo caps flows rates) (qs caps flows ws) i).1*qs caps flows ws i)=(nmN (qo caps flows rates) (qs caps flows ws) i).1*qs caps flows ws i:=qi (by omega) (by omega)
  have w5:wI (qt (qo caps flows rates i)*(nmN (qo caps flows rates) (qs caps flows ws) i).2)=qt (qo caps flows rates i)*(nmN (qo caps flows rates) (qs caps flows ws) i).2:=qi (by omega) (by omega)
  simp only [el,w1,w2,w3,w4,w5]
  unfold nmF
  cases decide ((nmN (qo caps flows rates) (qs caps flows ws) i).1*qs caps flows ws i < qt (qo caps flows rates i)*(nmN (qo caps flows rates) (qs caps flows ws) i).2)<;>rfl
 ·show jg (n+1) _ _ _ _ _ _ _ _ _ _ _ _ _ _ _ _ _ _ _=_
  have hrl:=hg.rl
  rw [qbu];unfold GJ ck;(repeat rewrite [obE]);rw [qe (show ¬ (flows.length:Int) < ((scR caps flows rates).length:Int) by omega)]
theorem qhn (hw:Wt caps.length ws) {s:Int×Int} (hs1:0<=s.1/\s.1<=1000000000000) (hs2:1<=s.2/\s.2<=6291456) {a b:Int} {c d:List (List Int)} {e:List Int} :
  jy FU s.1 s.2 (ldL caps flows (qA flows)) caps (caps.length:Int) 0 a c b caps flows A R P g ws h (List.replicate caps.length 0) d e=some (prL caps flows ws s):=by
 have hc:=hn.c1
 have e0:List.replicate caps.length (0:Int)=tab caps.length fun t=>if t < 0 then prS caps flows ws s t else 0:=(qG _).trans (qm fun t _=>(if_neg (Nat.not_lt_zero t)).symm)
 rw [e0]
 refine qp (m:=caps.length) (by omega) (fun n j (l:List Int)=>jy n s.1 s.2 (ldL caps flows (qA flows)) caps (caps.length:Int) j a c b caps flows A R P g ws h l d e)
  (fun j=>tab caps.length fun t=>if t < j then prS caps flows ws s t else 0) (prL caps flows ws s) (fun n j hj=>?_) fun n=>?_
 ·show jy (n+1) _ _ _ _ _ _ _ _ _ _ _ _ _ _ _ _ _ _ _ _=jy n _ _ _ _ _ _ _ _ _ _ _ _ _ _ _ _ _ _ _ _
  have hld:(ldL caps flows (qA flows)).length=caps.length:=qq _ _
  have hlg:(ldL caps flows (qA flows)).getD j 0=qn flows (qA flows) j:=qr _ hj
  have hwl:=hw.len
  have hwj:=hw.bd j hj
  have put:∀ x:Int,x=prS caps flows ws s j->(tab caps.length fun t=>if t < j then prS caps flows ws s t else 0).set j x=tab caps.length fun t=>if t < j+1 then prS caps flows ws s t else 0:=fun x hx=>by
   rw [qU]
   exact qm fun t ht=>by
    by_cases c:t=j
    ·rw [if_pos c,if_pos (by omega),c];exact hx
    ·rw [if_neg c]
     by_cases c2:t < j
     ·rw [if_pos c2,if_pos (by omega)]
     ·rw [if_neg c2,if_neg (by omega)]
  rw [Sv];unfold Js ck;rw [qd (show (j:Int) < (caps.length:Int) by omega),qd (show (0:Int)<=(j:Int) by omega),qd (show (j:Int) < (caps.length:Int) by omega),up1 (by omega)]
  simp only [Int.toNat_natCast,qq,hld,hlg]
  by_cases c1:caps.getD j 0=0
  ·rw [show (caps.getD j 0==0)=true from by rw [qv];exact decide_eq_true c1,cond_true,qd (show (j:Int) < (caps.length:Int) by omega),qd hj,put _ (by unfold prS;rw [c1];rfl)]
  rw [show (caps.getD j 0==0)=false from by rw [qv];exact decide_eq_false c1,cond_false,qd (show (j:Int) < (caps.length:Int) by omega)]
  by_cases c2:qn flows (qA flows) j > 0
  ·have p1:=Int.mul_le_mul hs1.2 hwj.2 (by omega) (by omega)
   have p2:=Int.mul_nonneg hs1.1 (show 0<=ws.getD j 0 by omega)
   have w1:wI (s.1*ws.getD j 0)=s.1*ws.getD j 0:=qi (by omega) (by omega)
   have w2:wI (s.1*ws.getD j 0+s.2)=s.1*ws.getD j 0+s.2:=qi (by omega) (by omega)
   have w3:wI (s.1*ws.getD j 0+s.2 - 1)=s.1*ws.getD j 0+s.2 - 1:=qi (by omega) (by omega)
   have q0:0<=Int.tdiv (s.1*ws.getD j 0+s.2 - 1) s.2:=Int.tdiv_nonneg (by omega) (by omega)
   have q1:Int.tdiv (s.1*ws.getD j 0+s.2 - 1) s.2<=s.1*ws.getD j 0+s.2 - 1:=by
    rw [Int.tdiv_eq_ediv_of_nonneg (by omega)]
    exact Int.ediv_le_self _ (by omega)
   have w4:wI (Int.tdiv (s.1*ws.getD j 0+s.2 - 1) s.2)=Int.tdiv (s.1*ws.getD j 0+s.2 - 1) s.2:=qi (by omega) (by omega)
   rw [qd c2,qd (show (j:Int) < (ws.length:Int) by omega),qd (show j < ws.length by omega),qd (show s.2≠0 by omega),qd (show (j:Int) < (caps.length:Int) by omega),qd hj,w1,w2,w3,w4,
    put _ (by unfold prS;rw [show (caps.getD j 0==0)=false from by rw [qv];exact decide_eq_false c1,cond_false,qd c2])]
  ·rw [qe c2]
   congr 1
   exact qm fun t ht=>by
    by_cases c:t=j
    ·rw [c,if_neg (Nat.lt_irrefl j),if_pos (by omega)]
     unfold prS
     rw [show (caps.getD j 0==0)=false from by rw [qv];exact decide_eq_false c1,cond_false,qe c2]
    ·by_cases c3:t < j
     ·rw [if_pos c3,if_pos (by omega)]
     ·rw [if_neg c3,if_neg (by omega)]
 ·show jy (n+1) _ _ _ _ _ _ _ _ _ _ _ _ _ _ _ _ _ _ _ _=_
  rw [Sv];unfold Js ck;rw [qe (show ¬ (caps.length:Int) < (caps.length:Int) by omega)]
  exact congrArg some (qm fun t ht=>if_pos ht)
theorem v75_eq (hw:Wt caps.length ws) (hfit:Fit caps flows) {m:Int} (hm:0<=m/\m<=65000000000000) {rates:List (List Int)} (hr:Rg caps flows m rates) (hz:Nz flows rates):v75 rates caps flows A R P g ws h=some (qx caps flows rates ws):=by
 have hc:=hn.c1
 have hg:=gE hn hr hz
 have ht:=Gj hn hr hz
 have e60:v60 rates caps flows A R P g ws h=some (ldL caps flows rates):=SG hn hm hr
 have hld:(ldL caps flows rates).length=caps.length:=qq _ _
 have hlb:∀ k,0<=(ldL caps flows rates).getD k 0/\(ldL caps flows rates).getD k 0<=3000000000000000:=fun k=>by
  by_cases hk:k < caps.length
  ·rw [show (ldL caps flows rates).getD k 0=qn flows rates k from qr _ hk]
   have:=qcL hn hm.1 hr k
   omega
  ·rw [out1 (by omega)];omega
 have e61:v61 (ldL caps flows rates) caps flows A R P g ws h=some (tgS caps flows rates:Int):=by rw [qeO hn hld hlb,ht.1]
 have hcl:∀ i t:Nat,i < flows.length->t < (flows.getD i []).length->v81 (i:Int) (t:Int) rates caps flows A R P g ws h (tgS caps flows rates:Int) (ldL caps flows rates)=some (scS caps flows rates i t):=fun i t hi ht'=>by
  have hrl:=hr.rl
  have hri:=hr.rli i hi
  have hrt:=hr.rate i t
  have hcp:=hn.cap (tgS caps flows rates)
  have hlt:=hlb (tgS caps flows rates)
  have hlg:(ldL caps flows rates).getD (tgS caps flows rates) 0=qn flows rates (tgS caps flows rates):=qr _ ht.2.1
  have hsc:=qcQ hn hr hz hi ht'
  unfold v81 tv81 ck;(repeat rewrite [obE])
  rw [qd (show (0:Int)<=(i:Int) by omega),qd (show (i:Int) < (rates.length:Int) by omega),qd (show (0:Int)<=(t:Int) by omega)]
  simp only [Int.toNat_natCast,hld]
  rw [qd (show (t:Int) < ((rates.getD i []).length:Int) by omega),qd (show (0:Int)<=(tgS caps flows rates:Int) by omega),qd (show (tgS caps flows rates:Int) < (caps.length:Int) by omega),qd (show (tgS caps flows rates:Int) < (caps.length:Int) by omega),hlg]
  have w1:wI (1000000*caps.getD (tgS caps flows rates) 0)=1000000*caps.getD (tgS caps flows rates) 0:=qi (by omega) (by omega)
  have hv:v56 (rt rates i t) (1000000*caps.getD (tgS caps flows rates) 0) (qn flows rates (tgS caps flows rates))=some (scS caps flows rates i t):=qeN hrt.1 (by omega) (by omega) (by omega) ht.2.2.1 (by omega) (by
   have e:rt rates i t*(1000000*caps.getD (tgS caps flows rates) 0) / qn flows rates (tgS caps flows rates)=scS caps flows rates i t:=rfl
   omega)
  rw [w1,show (rates.getD i []).getD t 0=rt rates i t from rfl,hv]
  rfl
 have e31:JL caps flows A R P g ws h rates (tgS caps flows rates:Int) (ldL caps flows rates)=some (scR caps flows rates):=qeI hn (scS caps flows rates) hcl
 have e314:JM caps flows A R P g ws h=some (qA flows):=qeJ hn (fun _ _=>1) (fun _ _ _ _=>rfl)
 have hone:v60 (qA flows) caps flows A R P g ws h=some (ldL caps flows (qA flows)):=by
  have hq:Rg (tab 8 fun _=>1) flows 1 (qA flows):=KO (by omega) (fun _ _ _ _=>by omega) (fun i t hi ht _=>use_iff.2 fun j hj=>by
   have:=hn.link i t j hi ht hj
   rw [qr _ (by omega)];decide)
  exact SG hn (m:=1) (by omega) hq
 have h36:Gr 0 0 caps flows A R P g ws h (ldL caps flows rates) rates (tgS caps flows rates:Int) [] (List.replicate caps.length 0) [] []=some (cond (gC caps flows rates) ((gn caps flows (scR caps flows rates) (prL caps flows ws (nmS caps flows rates ws))).2==0,scR caps flows rates,(gn caps flows (scR caps flows rates) (prL caps flows ws (nmS caps flows rates ws))).1,prL caps flows ws (nmS caps flows rates ws)) (false,scR caps flows rates,0,List.replicate caps.length 0)):=by
  unfold Gr KD;(repeat rewrite [obE])
  rw [e31]
  simp only [qh,qf,cond_true]
  unfold JU KF;(repeat rewrite [obE])
  rw [l75_0_0 hn hw hfit hm hr hz]
  cases hfull:gC caps flows rates with
  | false=>rfl
  | true=>
   have hb:=qcN hn hw hfit hr hz hfull
   have e16:=qhn hn hw hb.1 hb.2.1 (A:=A) (R:=R) (P:=P) (g:=g) (h:=h) (a:=0) (b:=0) (c:=scR caps flows rates) (d:=[]) (e:=[])
   have hfew:Few caps flows (scR caps flows rates) (prL caps flows ws (nmS caps flows rates ws)):=DY hn hg.rl hg.rli (by unfold prL;rw [qq];omega)
   rw [e314]
   simp only [cond_true,gR,gw,qh,qf,cond_false]
   rw [hone]
   simp only [qh,qf,cond_true]
   unfold G4 JJ;(repeat rewrite [obE])
   rw [e16]
   simp only [qh,qf,cond_true]
   unfold gu Gi;(repeat rewrite [obE])
   rw [qha hfew]
   rfl
 unfold v75 tv75;(repeat rewrite [obE])
 rw [e60]
 simp only [qh,qf,cond_true]
 rw [e61]
 simp only [qh,qf,cond_true,Int.toNat_natCast]
 rw [h36,qd (Int.le_refl _),qd (show (caps.length:Int)<=((2147483648:Nat):Int) by omega)]
 unfold qx
 cases gC caps flows rates with
 | true=>rfl
 | false=>rw [qG];rfl
theorem v58_eq (hw:Wt caps.length ws) (hfit:Fit caps flows) {m:Int} (hm:0<=m/\m<=65000000000000) {rates:List (List Int)} (hr:Rg caps flows m rates) (hz:Nz flows rates):v58 rates caps flows A R P g ws h=some (qR (R,P,g) (qx caps flows rates ws)):=by
 unfold v58 tv58;(repeat rewrite [obE])
 rw [v75_eq hn hw hfit hm hr hz]
 have e:((R.length:Int)==0)=decide (R.length=0):=by
  rw [qv]
  apply decide_eq_decide.2
  omega
 simp only [qh,qf,cond_true,e]
 unfold qR
 cases (qx caps flows rates ws).2.2.2 with
 | false=>rfl
 | true=>
  cases decide (R.length=0) with
  | true=>rfl
  | false=>
   simp only [cond_true,cond_false]
   by_cases c:(qx caps flows rates ws).2.2.1 < g
   ·exact (qd c _ _).trans (congrArg some (qd c _ _).symm)
   ·exact (qe c _ _).trans (congrArg some (qe c _ _).symm)
theorem l75_0_1 {w:List Int} (hw:Wt caps.length w) (hfit:Fit caps flows) {m:Int} (hm:0<=m/\m<=65000000000000) {rates:List (List Int)} (hr:Rg caps flows m rates) (hz:Nz flows rates) {a b:Int} {c e:List Int} {d:List (List Int)} :
  jh FU w 0 1 (scR caps flows rates) ((scR caps flows rates).length:Int) 0 a (scR caps flows rates) b caps flows A R P g ws h c d e=some (cond (gC caps flows rates) (.inr (nmS caps flows rates w)) (.inl false)):=by
 have hg:=gE hn hr hz
 have hf:=hn.f1
 have hx:∀ i,i < flows.length->0<=qo caps flows rates i:=fun i hi=>(HP hn hr hz hi).1
 have hl:∀ i,i < flows.length->1<=qs caps flows w i/\qs caps flows w i<=6291456:=fun i hi=>by
  obtain ⟨b,_,_,_,_,_,h⟩:=HM hn hw hfit hi
  omega
 refine qdH (m:=flows.length) (by omega) (fun n i (s:Int×Int)=>jh n w s.1 s.2 (scR caps flows rates) ((scR caps flows rates).length:Int) i a (scR caps flows rates) b caps flows A R P g ws h c d e) (nmN (qo caps flows rates) (qs caps flows w)) (fun i=>qo caps flows rates i==0) (fun n i hi=>?_) fun n=>?_
 ·show jh (n+1) _ _ _ _ _ _ _ _ _ _ _ _ _ _ _ _ _ _ _ _=cond _ _ (jh n _ (nmF (qo caps flows rates i) (qs caps flows w i) (nmN (qo caps flows rates) (qs caps flows w) i)).1 (nmF (qo caps flows rates i) (qs caps flows w i) (nmN (qo caps flows rates) (qs caps flows w) i)).2 _ _ _ _ _ _ _ _ _ _ _ _ _ _ _ _ _)
  have hrl:=hg.rl
  have hri:=hg.rli i hi
  have h4:=hn.sub i hi
  have e1:v82 ((scR caps flows rates).getD i [])=some (qo caps flows rates i):=qhe (by omega) (fun k=>hg.rate i k)
  have e2:=qii hn hw hi (A:=A) (R:=R) (P:=P) (g:=g) (ws:=ws) (h:=h)
  have hnb:=qeb hx hl i (by omega)
  have hxi:=HP hn hr hz hi
  have hli:=hl i hi
  have hni:=qaQ hxi.1
  rw [qbv];unfold GK ck;(repeat rewrite [obE]);rw [qd (show (i:Int) < ((scR caps flows rates).length:Int) by omega),qd (show (0:Int)<=(i:Int) by omega),qd (show (i:Int) < ((scR caps flows rates).length:Int) by omega),up1 (by omega)]
  simp only [Int.toNat_natCast,e1,e2,qh,qf,cond_true]
  by_cases c0:qo caps flows rates i=0
  ·rw [show (qo caps flows rates i==0)=true from by rw [qv];exact decide_eq_true c0];rfl
  rw [show (qo caps flows rates i==0)=false from by rw [qv];exact decide_eq_false c0,cond_false,cond_false,qd (show qo caps flows rates i≠0 from c0)]
  have el:(chS caps flows w i).2=qs caps flows w i:=rfl
  have w1:wI (1000000000000+qo caps flows rates i)=1000000000000+qo caps flows rates i:=qi (by omega) (by omega)
  have w2:wI (1000000000000+qo caps flows rates i - 1)=1000000000000+qo caps flows rates i - 1:=qi (by omega) (by omega)
  have w3:wI (Int.tdiv (1000000000000+qo caps flows rates i - 1) (qo caps flows rates i))=qt (qo caps flows rates i):=qi (x:=qt (qo caps flows rates i)) (by omega) (by omega)
  have p1:=Int.mul_le_mul hnb.1.2 hli.2 (by omega) (by omega)
  have p2:=Int.mul_nonneg hnb.1.1 (show 0<=qs caps flows w i by omega)
  have p3:=Int.mul_le_mul hni.2 hnb.2.2 (by omega) (by omega)
  have p4:=Int.mul_nonneg hni.1 (show 0<=(nmN (qo caps flows rates) (qs caps flows w) i).2 by omega)
  have w4:wI ((nmN (qo caps flows rates) (qs caps flows w) i).1*qs caps flows w i)=(nmN (qo caps flows rates) (qs caps flows w) i).1*qs caps flows w i:=qi (by omega) (by omega)
  have w5:wI (qt (qo caps flows rates i)*(nmN (qo caps flows rates) (qs caps flows w) i).2)=qt (qo caps flows rates i)*(nmN (qo caps flows rates) (qs caps flows w) i).2:=qi (by omega) (by omega)
  simp only [el,w1,w2,w3,w4,w5]
  unfold nmF
  cases decide ((nmN (qo caps flows rates) (qs caps flows w) i).1*qs caps flows w i < qt (qo caps flows rates i)*(nmN (qo caps flows rates) (qs caps flows w) i).2)<;>rfl
 ·show jh (n+1) _ _ _ _ _ _ _ _ _ _ _ _ _ _ _ _ _ _ _ _=_
  have hrl:=hg.rl
  rw [qbv];unfold GK ck;(repeat rewrite [obE]);rw [qe (show ¬ (flows.length:Int) < ((scR caps flows rates).length:Int) by omega)]
theorem qho {w:List Int} (hw:Wt caps.length w) {s:Int×Int} (hs1:0<=s.1/\s.1<=1000000000000) (hs2:1<=s.2/\s.2<=6291456) {a b:Int} {c d:List (List Int)} {e:List Int} :
  jz FU w s.1 s.2 (ldL caps flows (qA flows)) caps (caps.length:Int) 0 a c b caps flows A R P g ws h (List.replicate caps.length 0) d e=some (prL caps flows w s):=by
 have hc:=hn.c1
 have e0:List.replicate caps.length (0:Int)=tab caps.length fun t=>if t < 0 then prS caps flows w s t else 0:=(qG _).trans (qm fun t _=>(if_neg (Nat.not_lt_zero t)).symm)
 rw [e0]
 refine qp (m:=caps.length) (by omega) (fun n j (l:List Int)=>jz n w s.1 s.2 (ldL caps flows (qA flows)) caps (caps.length:Int) j a c b caps flows A R P g ws h l d e)
  (fun j=>tab caps.length fun t=>if t < j then prS caps flows w s t else 0) (prL caps flows w s) (fun n j hj=>?_) fun n=>?_
 ·show jz (n+1) _ _ _ _ _ _ _ _ _ _ _ _ _ _ _ _ _ _ _ _ _=jz n _ _ _ _ _ _ _ _ _ _ _ _ _ _ _ _ _ _ _ _ _
  have hld:(ldL caps flows (qA flows)).length=caps.length:=qq _ _
  have hlg:(ldL caps flows (qA flows)).getD j 0=qn flows (qA flows) j:=qr _ hj
  have hwl:=hw.len
  have hwj:=hw.bd j hj
  have put:∀ x:Int,x=prS caps flows w s j->(tab caps.length fun t=>if t < j then prS caps flows w s t else 0).set j x=tab caps.length fun t=>if t < j+1 then prS caps flows w s t else 0:=fun x hx=>by
   rw [qU]
   exact qm fun t ht=>by
    by_cases c:t=j
    ·rw [if_pos c,if_pos (by omega),c];exact hx
    ·rw [if_neg c]
     by_cases c2:t < j
     ·rw [if_pos c2,if_pos (by omega)]
     ·rw [if_neg c2,if_neg (by omega)]
  rw [Sw];unfold Jt ck;rw [qd (show (j:Int) < (caps.length:Int) by omega),qd (show (0:Int)<=(j:Int) by omega),qd (show (j:Int) < (caps.length:Int) by omega),up1 (by omega)]
  simp only [Int.toNat_natCast,qq,hld,hlg]
  by_cases c1:caps.getD j 0=0
  ·rw [show (caps.getD j 0==0)=true from by rw [qv];exact decide_eq_true c1,cond_true,qd (show (j:Int) < (caps.length:Int) by omega),qd hj,put _ (by unfold prS;rw [c1];rfl)]
  rw [show (caps.getD j 0==0)=false from by rw [qv];exact decide_eq_false c1,cond_false,qd (show (j:Int) < (caps.length:Int) by omega)]
  by_cases c2:qn flows (qA flows) j > 0
  ·have p1:=Int.mul_le_mul hs1.2 hwj.2 (by omega) (by omega)
   have p2:=Int.mul_nonneg hs1.1 (show 0<=w.getD j 0 by omega)
   have w1:wI (s.1*w.getD j 0)=s.1*w.getD j 0:=qi (by omega) (by omega)
   have w2:wI (s.1*w.getD j 0+s.2)=s.1*w.getD j 0+s.2:=qi (by omega) (by omega)
   have w3:wI (s.1*w.getD j 0+s.2 - 1)=s.1*w.getD j 0+s.2 - 1:=qi (by omega) (by omega)
   have q0:0<=Int.tdiv (s.1*w.getD j 0+s.2 - 1) s.2:=Int.tdiv_nonneg (by omega) (by omega)
   have q1:Int.tdiv (s.1*w.getD j 0+s.2 - 1) s.2<=s.1*w.getD j 0+s.2 - 1:=by
    rw [Int.tdiv_eq_ediv_of_nonneg (by omega)]
    exact Int.ediv_le_self _ (by omega)
   have w4:wI (Int.tdiv (s.1*w.getD j 0+s.2 - 1) s.2)=Int.tdiv (s.1*w.getD j 0+s.2 - 1) s.2:=qi (by omega) (by omega)
   rw [qd c2,qd (show (j:Int) < (w.length:Int) by omega),qd (show s.2≠0 by omega),qd (show (j:Int) < (caps.length:Int) by omega),qd hj,w1,w2,w3,w4,
    put _ (by unfold prS;rw [show (caps.getD j 0==0)=false from by rw [qv];exact decide_eq_false c1,cond_false,qd c2])]
  ·rw [qe c2]
   congr 1
   exact qm fun t ht=>by
    by_cases c:t=j
    ·rw [c,if_neg (Nat.lt_irrefl j),if_pos (by omega)]
     unfold prS
     rw [show (caps.getD j 0==0)=false from by rw [qv];exact decide_eq_false c1,cond_false,qe c2]
    ·by_cases c3:t < j
     ·rw [if_pos c3,if_pos (by omega)]
     ·rw [if_neg c3,if_neg (by omega)]
 ·show jz (n+1) _ _ _ _ _ _ _ _ _ _ _ _ _ _ _ _ _ _ _ _ _=_
  rw [Sw];unfold Jt ck;rw [qe (show ¬ (caps.length:Int) < (caps.length:Int) by omega)]
  exact congrArg some (qm fun t ht=>if_pos ht)
theorem qim {w:List Int} (hw:Wt caps.length w) (hfit:Fit caps flows) {m:Int} (hm:0<=m/\m<=65000000000000) {rates:List (List Int)} (hr:Rg caps flows m rates) (hz:Nz flows rates):HT rates w caps flows A R P g ws h=some (qx caps flows rates w):=by
 have hc:=hn.c1
 have hg:=gE hn hr hz
 have ht:=Gj hn hr hz
 have e60:v60 rates caps flows A R P g ws h=some (ldL caps flows rates):=SG hn hm hr
 have hld:(ldL caps flows rates).length=caps.length:=qq _ _
 have hlb:∀ k,0<=(ldL caps flows rates).getD k 0/\(ldL caps flows rates).getD k 0<=3000000000000000:=fun k=>by
  by_cases hk:k < caps.length
  ·rw [show (ldL caps flows rates).getD k 0=qn flows rates k from qr _ hk]
   have:=qcL hn hm.1 hr k
   omega
  ·rw [out1 (by omega)];omega
 have e61:v61 (ldL caps flows rates) caps flows A R P g ws h=some (tgS caps flows rates:Int):=by rw [qeO hn hld hlb,ht.1]
 have hcl:∀ i t:Nat,i < flows.length->t < (flows.getD i []).length->v81 (i:Int) (t:Int) rates caps flows A R P g ws h (tgS caps flows rates:Int) (ldL caps flows rates)=some (scS caps flows rates i t):=fun i t hi ht'=>by
  have hrl:=hr.rl
  have hri:=hr.rli i hi
  have hrt:=hr.rate i t
  have hcp:=hn.cap (tgS caps flows rates)
  have hlt:=hlb (tgS caps flows rates)
  have hlg:(ldL caps flows rates).getD (tgS caps flows rates) 0=qn flows rates (tgS caps flows rates):=qr _ ht.2.1
  have hsc:=qcQ hn hr hz hi ht'
  unfold v81 tv81 ck;(repeat rewrite [obE])
  rw [qd (show (0:Int)<=(i:Int) by omega),qd (show (i:Int) < (rates.length:Int) by omega),qd (show (0:Int)<=(t:Int) by omega)]
  simp only [Int.toNat_natCast,hld]
  rw [qd (show (t:Int) < ((rates.getD i []).length:Int) by omega),qd (show (0:Int)<=(tgS caps flows rates:Int) by omega),qd (show (tgS caps flows rates:Int) < (caps.length:Int) by omega),qd (show (tgS caps flows rates:Int) < (caps.length:Int) by omega),hlg]
  have w1:wI (1000000*caps.getD (tgS caps flows rates) 0)=1000000*caps.getD (tgS caps flows rates) 0:=qi (by omega) (by omega)
  have hv:v56 (rt rates i t) (1000000*caps.getD (tgS caps flows rates) 0) (qn flows rates (tgS caps flows rates))=some (scS caps flows rates i t):=qeN hrt.1 (by omega) (by omega) (by omega) ht.2.2.1 (by omega) (by
   have e:rt rates i t*(1000000*caps.getD (tgS caps flows rates) 0) / qn flows rates (tgS caps flows rates)=scS caps flows rates i t:=rfl
   omega)
  rw [w1,show (rates.getD i []).getD t 0=rt rates i t from rfl,hv]
  rfl
 have e31:JL caps flows A R P g ws h rates (tgS caps flows rates:Int) (ldL caps flows rates)=some (scR caps flows rates):=qeI hn (scS caps flows rates) hcl
 have e314:JM caps flows A R P g ws h=some (qA flows):=qeJ hn (fun _ _=>1) (fun _ _ _ _=>rfl)
 have hone:v60 (qA flows) caps flows A R P g ws h=some (ldL caps flows (qA flows)):=by
  have hq:Rg (tab 8 fun _=>1) flows 1 (qA flows):=KO (by omega) (fun _ _ _ _=>by omega) (fun i t hi ht _=>use_iff.2 fun j hj=>by
   have:=hn.link i t j hi ht hj
   rw [qr _ (by omega)];decide)
  exact SG hn (m:=1) (by omega) hq
 have h36:Gs w 0 0 caps flows A R P g ws h (ldL caps flows rates) rates (tgS caps flows rates:Int) [] (List.replicate caps.length 0) [] []=some (cond (gC caps flows rates) ((gn caps flows (scR caps flows rates) (prL caps flows w (nmS caps flows rates w))).2==0,scR caps flows rates,(gn caps flows (scR caps flows rates) (prL caps flows w (nmS caps flows rates w))).1,prL caps flows w (nmS caps flows rates w)) (false,scR caps flows rates,0,List.replicate caps.length 0)):=by
  unfold Gs KE;(repeat rewrite [obE])
  rw [e31]
  simp only [qh,qf,cond_true]
  unfold JV KG;(repeat rewrite [obE])
  rw [l75_0_1 hn hw hfit hm hr hz]
  cases hfull:gC caps flows rates with
  | false=>rfl
  | true=>
   have hb:=qcN hn hw hfit hr hz hfull
   have e16:=qho hn hw hb.1 hb.2.1 (A:=A) (R:=R) (P:=P) (g:=g) (ws:=ws) (h:=h) (a:=0) (b:=0) (c:=scR caps flows rates) (d:=[]) (e:=[])
   have hfew:Few caps flows (scR caps flows rates) (prL caps flows w (nmS caps flows rates w)):=DY hn hg.rl hg.rli (by unfold prL;rw [qq];omega)
   rw [e314]
   simp only [cond_true,gR,gw,qh,qf,cond_false]
   rw [hone]
   simp only [qh,qf,cond_true]
   unfold G5 JK;(repeat rewrite [obE])
   rw [e16]
   simp only [qh,qf,cond_true]
   unfold gu Gi;(repeat rewrite [obE])
   rw [qha hfew]
   rfl
 unfold HT qc5;(repeat rewrite [obE])
 rw [e60]
 simp only [qh,qf,cond_true]
 rw [e61]
 simp only [qh,qf,cond_true,Int.toNat_natCast]
 rw [h36,qd (Int.le_refl _),qd (show (caps.length:Int)<=((2147483648:Nat):Int) by omega)]
 unfold qx
 cases gC caps flows rates with
 | true=>rfl
 | false=>rw [qG];rfl
theorem qil {w:List Int} (hw:Wt caps.length w) (hfit:Fit caps flows) {m:Int} (hm:0<=m/\m<=65000000000000) {rates:List (List Int)} (hr:Rg caps flows m rates) (hz:Nz flows rates):K7 rates w caps flows A R P g ws h=some (qR (R,P,g) (qx caps flows rates w)):=by
 unfold K7 qcZ;(repeat rewrite [obE])
 rw [qim hn hw hfit hm hr hz]
 have e:((R.length:Int)==0)=decide (R.length=0):=by
  rw [qv]
  apply decide_eq_decide.2
  omega
 simp only [qh,qf,cond_true,e]
 unfold qR
 cases (qx caps flows rates w).2.2.2 with
 | false=>rfl
 | true=>
  cases decide (R.length=0) with
  | true=>rfl
  | false=>
   simp only [cond_true,cond_false]
   by_cases c:(qx caps flows rates w).2.2.1 < g
   ·exact (qd c _ _).trans (congrArg some (qd c _ _).symm)
   ·exact (qe c _ _).trans (congrArg some (qe c _ _).symm)
end
theorem qef (l:List Int):l=tab l.length fun k=>l.getD k 0:=(qgI l 0).symm
theorem K1 {n j:Nat} (f f':Nat->Int) {x:Int} (hx:x=f j):(tab n fun t=>if t < j then f t else f' t).set j x=tab n fun t=>if t < j+1 then f t else f' t:=by
 rw [qU]
 exact qm fun t ht=>by
  by_cases c:t=j
  ·rw [if_pos c,if_pos (by omega),c];exact hx
  ·rw [if_neg c]
   by_cases c2:t < j
   ·rw [if_pos c2,if_pos (by omega)]
   ·rw [if_neg c2,if_neg (by omega)]
theorem qif {n j:Nat} (f f':Nat->Int) (hx:f j=f' j):(tab n fun t=>if t < j then f t else f' t)=tab n fun t=>if t < j+1 then f t else f' t:=
 qm fun t ht=>by
  by_cases c:t=j
  ·rw [c,if_neg (Nat.lt_irrefl j),if_pos (by omega),hx]
  ·by_cases c2:t < j
   ·rw [if_pos c2,if_pos (by omega)]
   ·rw [if_neg c2,if_neg (by omega)]
theorem KK {n:Nat} (f f':Nat->Int):tab n f'=tab n fun t=>if t < 0 then f t else f' t:=qm fun t _=>(if_neg (Nat.not_lt_zero t)).symm
theorem qg6 {n j:Nat} (f f':Nat->Int) (hj:j < n):(tab n fun t=>if t < j then f t else f' t).getD j 0=f' j:=by rw [qr _ hj,if_neg (Nat.lt_irrefl j)]
theorem qdE {m:Nat} (hm:m<=9223372036854775807) {ρ:Type} (F:Nat->Int->Option (ρ ⊕ Unit)) (c:ρ) (z:Nat->Bool)
  (step:∀ n i,i < m->F (n+1) (i:Int)=cond (z i) (some (.inl c)) (F n ((i+1:Nat):Int))) (fin:∀ n,F (n+1) (m:Int)=some (.inr ())) :
  F FU 0=some (cond ((List.range m).all fun i=>!z i) (.inr ()) (.inl c)):=by
 have key:∀ k i n,i+k=m->k < n->(∃ j,i<=j/\j < m/\z j=true/\F n (i:Int)=some (.inl c))\/((∀ j,i<=j->j < m->z j=false)/\F n (i:Int)=some (.inr ())):=by
  intro k
  induction k with
  | zero=>
   intro i n h1 h2
   cases n with
   | zero=>omega
   | succ n=>
    have:i=m:=by omega
    subst this
    exact .inr ⟨fun j h3 h4=>by omega,fin n⟩
  | succ k ih=>
   intro i n h1 h2
   cases n with
   | zero=>omega
   | succ n=>
    rw [step n i (by omega)]
    cases hz:z i with
    | true=>exact .inl ⟨i,Nat.le_refl _,by omega,hz,rfl⟩
    | false=>
     rcases ih (i+1) n (by omega) (by omega) with ⟨j,a,b,d,e⟩ | ⟨a,e⟩
     ·exact .inl ⟨j,by omega,b,d,e⟩
     ·refine .inr ⟨fun j h3 h4=>?_,e⟩
      by_cases h5:j=i
      ·rw [h5];exact hz
      ·exact a j (by omega) h4
 rcases key m 0 FU (by omega) (by unfold FU;omega) with ⟨j,a,b,d,e⟩ | ⟨a,e⟩
 ·have h:((List.range m).all fun i=>!z i)=false:=List.all_eq_false.2 ⟨j,List.mem_range.2 b,by rw [d];decide⟩
  rw [h];exact e
 ·have h:((List.range m).all fun i=>!z i)=true:=List.all_eq_true.2 fun j hj=>by rw [a j (Nat.zero_le _) (List.mem_range.1 hj)];rfl
  rw [h];exact e
section
variable {caps : List Int} {flows : Fl} (hn : Nw caps flows) {A R : List (List Int)} {P : List Int} {g : Int} {ws h : List Int}
include hn
theorem l34_0 (hw:Wt caps.length ws) (hl:h.length=caps.length) (hb:∀ k,k < caps.length->0<=h.getD k 0/\h.getD k 0<=2000000000) {A' now:List (List Int)} :
  jI FU (ws.length:Int) 0 caps flows A' R P g ws h now=some (qI h ws):=by
 have hc:=hn.c1
 have hwl:=hw.len
 have e0:h=tab h.length fun t=>if t < 0 then h.getD t 0+ws.getD t 0 else h.getD t 0:=(qef h).trans (KK _ _)
 have h0:jI FU (ws.length:Int) 0 caps flows A' R P g ws (tab h.length fun t=>if t < 0 then h.getD t 0+ws.getD t 0 else h.getD t 0) now=some (qI h ws):=by
  refine qp (m:=h.length) (by omega) (fun n j (l:List Int)=>jI n (ws.length:Int) j caps flows A' R P g ws l now) (fun j=>tab h.length fun t=>if t < j then h.getD t 0+ws.getD t 0 else h.getD t 0) (qI h ws) (fun n j hj=>?_) fun n=>?_
  ·show jI (n+1) _ _ _ _ _ _ _ _ _ _ _=jI n _ _ _ _ _ _ _ _ _ _ _
   have hbj:=hb j (by omega)
   have hwj:=hw.bd j (by omega)
   rw [qbf];unfold Ke ck;rw [qd (show (j:Int) < (ws.length:Int) by omega),qd (show (0:Int)<=(j:Int) by omega),qd (show (j:Int) < (ws.length:Int) by omega),up1 (by omega)]
   simp only [Int.toNat_natCast,qq]
   rw [qd (show j < ws.length by omega),qd (show (j:Int) < (h.length:Int) by omega),qd hj,qg6 _ _ hj,qi (by omega) (by omega),K1 _ _ rfl]
  ·show jI (n+1) _ _ _ _ _ _ _ _ _ _ _=_
   rw [qbf];unfold Ke ck;rw [qe (show ¬ (h.length:Int) < (ws.length:Int) by omega)]
   exact congrArg some (qm fun t ht=>if_pos ht)
 rw [<- e0] at h0
 exact h0
theorem l34_16 (hl:h.length=caps.length) (hb:∀ k,k < caps.length->0<=h.getD k 0/\h.getD k 0<=2000000000) {A' now:List (List Int)} :
  jt FU (h.length:Int) 0 caps flows A' R P g ws h now (List.replicate h.length 0)=some (mnL h):=by
 have hc:=hn.c1
 have e0:List.replicate h.length (0:Int)=tab h.length fun t=>if t < 0 then mnS h t else 0:=(qG _).trans (KK _ _)
 have e59:v59 h=some (Gd h):=v59_eq (by omega) (by omega)
 rw [e0]
 refine qp (m:=h.length) (by omega) (fun n j (l:List Int)=>jt n (h.length:Int) j caps flows A' R P g ws h now l) (fun j=>tab h.length fun t=>if t < j then mnS h t else 0) (mnL h) (fun n j hj=>?_) fun n=>?_
 ·show jt (n+1) _ _ _ _ _ _ _ _ _ _ _ _=jt n _ _ _ _ _ _ _ _ _ _ _ _
  have hbj:=hb j (by omega)
  rw [Sk];unfold Jk ck;(repeat rewrite [obE]);rw [qd (show (j:Int) < (h.length:Int) by omega),qd (show (0:Int)<=(j:Int) by omega),qd (show (j:Int) < (h.length:Int) by omega),up1 (by omega)]
  simp only [Int.toNat_natCast,qq,e59,qh,qf,cond_true]
  have w1:wI (h.getD j 0*1024)=h.getD j 0*1024:=qi (by omega) (by omega)
  have q0:0<=Int.tdiv (h.getD j 0*1024) (max 1 (Gd h)):=Int.tdiv_nonneg (by omega) (by omega)
  have q1:Int.tdiv (h.getD j 0*1024) (max 1 (Gd h))<=h.getD j 0*1024:=by
   rw [Int.tdiv_eq_ediv_of_nonneg (by omega)]
   exact Int.ediv_le_self _ (by omega)
  have w2:wI (Int.tdiv (h.getD j 0*1024) (max 1 (Gd h)))=Int.tdiv (h.getD j 0*1024) (max 1 (Gd h)):=qi (by omega) (by omega)
  rw [qd hj,qd (show max 1 (Gd h)≠0 by omega),qd (show (j:Int) < (h.length:Int) by omega),qd hj,w1,w2,K1 (mnS h) _ (x:=max 16 (Int.tdiv (h.getD j 0*1024) (max 1 (Gd h)))) rfl]
 ·show jt (n+1) _ _ _ _ _ _ _ _ _ _ _ _=_
  rw [Sk];unfold Jk ck;(repeat rewrite [obE]);rw [qe (show ¬ (h.length:Int) < (h.length:Int) by omega)]
  exact congrArg some (qm fun t ht=>if_pos ht)
theorem l34_32 (hw:Wt caps.length ws) (hfit:Fit caps flows) {A':List (List Int)} :
  qY FU (ldL caps flows (qg caps flows ws)) (tgS caps flows (qg caps flows ws):Int) (ws.length:Int) 0 caps flows A' R P g ws h=some (nxL caps flows ws):=by
 have hc:=hn.c1
 have hwl:=hw.len
 have hr:=Gf hn hw hfit
 have hz:=G7 hn hw hfit
 have ht:=Gj hn hr hz
 have hld:(ldL caps flows (qg caps flows ws)).length=caps.length:=qq _ _
 have hlg:∀ k,k < caps.length->(ldL caps flows (qg caps flows ws)).getD k 0=qn flows (qg caps flows ws) k:=fun k hk=>qr _ hk
 have e0:ws=tab caps.length fun t=>if t < 0 then nxS caps flows ws t else ws.getD t 0:=(qef ws).trans ((congrArg (fun n=>tab n fun k=>ws.getD k 0) hwl).trans (KK _ _))
 have h0:qY FU (ldL caps flows (qg caps flows ws)) (tgS caps flows (qg caps flows ws):Int) (ws.length:Int) 0 caps flows A' R P g (tab caps.length fun t=>if t < 0 then nxS caps flows ws t else ws.getD t 0) h=some (nxL caps flows ws):=by
  refine qp (m:=caps.length) (by omega) (fun n j (l:List Int)=>qY n (ldL caps flows (qg caps flows ws)) (tgS caps flows (qg caps flows ws):Int) (ws.length:Int) j caps flows A' R P g l h)
   (fun j=>tab caps.length fun t=>if t < j then nxS caps flows ws t else ws.getD t 0) (nxL caps flows ws) (fun n j hj=>?_) fun n=>?_
  ·show qY (n+1) _ _ _ _ _ _ _ _ _ _ _ _=qY n _ _ _ _ _ _ _ _ _ _ _ _
   have hwj:=hw.bd j hj
   have hcj:=hn.cap j
   have hct:=hn.cap (tgS caps flows (qg caps flows ws))
   have hlj:=qcL hn (by omega) hr j
   rw [Sl];unfold Jl ck;rw [qd (show (j:Int) < (ws.length:Int) by omega),qd (show (0:Int)<=(j:Int) by omega)]
   simp only [Int.toNat_natCast,qq,hld,hlg j hj,hlg _ ht.2.1]
   rw [qd (show (j:Int) < (caps.length:Int) by omega),qd hj,qd (show (j:Int) < (caps.length:Int) by omega),up1 (by omega)]
   by_cases c:caps.getD j 0 > 0
   ·rw [qd c,qd (show (j:Int) < (caps.length:Int) by omega),qd (show (0:Int)<=(tgS caps flows (qg caps flows ws):Int) by omega),qd (show (tgS caps flows (qg caps flows ws):Int) < (caps.length:Int) by omega),qd (show (tgS caps flows (qg caps flows ws):Int) < (caps.length:Int) by omega),qd (show qn flows (qg caps flows ws) (tgS caps flows (qg caps flows ws))≠0 by omega),qd (show caps.getD j 0≠0 by omega),qg6 _ _ hj]
    have p1:=Int.mul_le_mul hlj.2 hct.2 hct.1 (by omega)
    have p2:=Int.mul_nonneg hlj.1 hct.1
    have w1:wI (qn flows (qg caps flows ws) j*caps.getD (tgS caps flows (qg caps flows ws)) 0)=qn flows (qg caps flows ws) j*caps.getD (tgS caps flows (qg caps flows ws)) 0:=qi (by omega) (by omega)
    rw [w1]
    obtain ⟨x,hx⟩:∃ x,x=Int.tdiv (qn flows (qg caps flows ws) j*caps.getD (tgS caps flows (qg caps flows ws)) 0) (qn flows (qg caps flows ws) (tgS caps flows (qg caps flows ws))):=⟨_,rfl⟩
    have hx0:0<=x:=by rw [hx];exact Int.tdiv_nonneg p2 (by omega)
    have hx1:x<=32*64000000000*1000:=by
     rw [hx,Int.tdiv_eq_ediv_of_nonneg p2]
     exact Int.le_trans (Int.ediv_le_self _ p2) p1
    rw [<- hx]
    have w2:wI x=x:=qi (by omega) (by omega)
    have w3:wI (x*1000)=x*1000:=qi (by omega) (by omega)
    rw [w2,w3]
    obtain ⟨y,hy⟩:∃ y,y=Int.tdiv (x*1000) (caps.getD j 0):=⟨_,rfl⟩
    have hy0:0<=y:=by rw [hy];exact Int.tdiv_nonneg (by omega) (by omega)
    have hy1:y<=x*1000:=by
     rw [hy,Int.tdiv_eq_ediv_of_nonneg (by omega)]
     exact Int.ediv_le_self _ (by omega)
    have hf:fulS caps flows ws j=y:=by rw [hy,hx];rfl
    rw [<- hy]
    have w4:wI y=y:=qi (by omega) (by omega)
    have w5:wI (1000+min y 1000)=1000+min y 1000:=qi (by omega) (by omega)
    have p3:=Int.mul_le_mul hwj.2 (show 1000+min y 1000<=2000 by omega) (by omega) (by omega)
    have p4:=Int.mul_nonneg (show 0<=ws.getD j 0 by omega) (show 0<=1000+min y 1000 by omega)
    rw [w4,w5]
    have w6:wI (ws.getD j 0*(1000+min y 1000))=ws.getD j 0*(1000+min y 1000):=qi (by omega) (by omega)
    have q0:0<=Int.tdiv (ws.getD j 0*(1000+min y 1000)) 1500:=Int.tdiv_nonneg p4 (by omega)
    have q1:Int.tdiv (ws.getD j 0*(1000+min y 1000)) 1500<=ws.getD j 0*(1000+min y 1000):=by
     rw [Int.tdiv_eq_ediv_of_nonneg p4]
     exact Int.ediv_le_self _ p4
    have w7:wI (Int.tdiv (ws.getD j 0*(1000+min y 1000)) 1500)=Int.tdiv (ws.getD j 0*(1000+min y 1000)) 1500:=qi (by omega) (by omega)
    rw [w6,w7,K1 (nxS caps flows ws) _ (by unfold nxS;rw [qd c,hf])]
   ·rw [qe c,qif (nxS caps flows ws) _ (by unfold nxS;rw [qe c])]
  ·show qY (n+1) _ _ _ _ _ _ _ _ _ _ _ _=_
   rw [Sl];unfold Jl ck;rw [qe (show ¬ (caps.length:Int) < (ws.length:Int) by omega)]
   exact congrArg some (qm fun t ht=>if_pos ht)
 rw [<- e0] at h0
 exact h0
theorem v34_eq (hfit:Fit caps flows) {k:Nat} (hk:k<=1000) (hi:Inv caps flows k (ws,A,h,R,P,g)):v34 caps flows A R P g ws h=
  some ((rdS caps flows (ws,A,h,R,P,g)).2.1,(rdS caps flows (ws,A,h,R,P,g)).2.2.2.1,(rdS caps flows (ws,A,h,R,P,g)).2.2.2.2.1,(rdS caps flows (ws,A,h,R,P,g)).2.2.2.2.2,(rdS caps flows (ws,A,h,R,P,g)).1,(rdS caps flows (ws,A,h,R,P,g)).2.2.1):=by
 have hw:Wt caps.length ws:=hi.wt
 have hrA:Rg caps flows (k*64000000000) A:=hi.rg
 have hl:h.length=caps.length:=hi.hl
 have hb:∀ j,j < caps.length->0<=h.getD j 0/\h.getD j 0<=k*1048576:=hi.hb
 have hnow:=Gf hn hw hfit
 have hnz:=G7 hn hw hfit
 obtain ⟨hsr,hsz⟩:=qg5 hn hfit hi
 obtain ⟨hsl,hsb⟩:=qg4 hn hfit hi
 have hc:=hn.c1
 have e1:K4 caps flows A R P g ws h=some (qg caps flows ws):=qig hn (qQ caps flows ws) (fun i t hi' ht=>by
  obtain ⟨b,_,_,hb1,hb2,hb3,hb4,hb5⟩:=Ge hn hw hfit hi'
  unfold v55 tv55;(repeat rewrite [obE])
  rw [qeK hn hw hi']
  simp only [qh,qf,cond_true]
  by_cases c:t=b
  ·subst c
   have e:(chS caps flows ws i).2=qs caps flows ws i:=rfl
   have hv:v56 1000000000 1024 (qs caps flows ws i)=some (1000000000*1024 / qs caps flows ws i):=qeN (by omega) (by omega) (by omega) (by omega) (by omega) (by omega) (by
    have:(1000000000:Int)*1024 / qs caps flows ws i=qQ caps flows ws i t:=hb4.symm
    omega)
   have e2:(1000000000:Int)*1024 / qs caps flows ws i=qQ caps flows ws i t:=hb4.symm
   rw [show ((chS caps flows ws i).1==(t:Int))=true from by rw [hb1];exact beq_self_eq_true _,cond_true,e,hv]
   simp only [qh,qf,cond_true]
   rw [e2]
  ·rw [show ((chS caps flows ws i).1==(t:Int))=false from by rw [hb1,qv];exact decide_eq_false (by omega),hb5 t c];rfl)
 have hnowv:∀ i t:Nat,i < flows.length->t < (flows.getD i []).length->v57 (i:Int) (t:Int) caps flows A R P g ws h (qg caps flows ws)=some (rt A i t+rt (qg caps flows ws) i t):=fun i t hi' ht=>by
  have r1:=hrA.rate i t
  have r2:=hnow.rate i t
  have l1:=hrA.rl
  have l2:=hrA.rli i hi'
  have l3:=hnow.rl
  have l4:=hnow.rli i hi'
  unfold v57 tv57 ck
  rw [qd (show (0:Int)<=(i:Int) by omega),qd (show (i:Int) < (A.length:Int) by omega),qd (show (0:Int)<=(t:Int) by omega)]
  simp only [Int.toNat_natCast]
  rw [qd (show (t:Int) < ((A.getD i []).length:Int) by omega),qd (show (i:Int) < ((qg caps flows ws).length:Int) by omega),qd (show (t:Int) < (((qg caps flows ws).getD i []).length:Int) by omega)]
  rw [show (A.getD i []).getD t 0=rt A i t from rfl,show ((qg caps flows ws).getD i []).getD t 0=rt (qg caps flows ws) i t from rfl,qi (by omega) (by omega)]
 have e2:K5 caps flows A R P g ws h (qg caps flows ws)=some (jb flows A (qg caps flows ws)):=qih hn (fun i t=>rt A i t+rt (qg caps flows ws) i t) hnowv
 have e3:=l34_0 hn (R:=R) (P:=P) (g:=g) hw hl (fun j hj=>by have:=hb j hj;omega) (A':=jb flows A (qg caps flows ws)) (now:=qg caps flows ws)
 have e4:v58 (qg caps flows ws) caps flows (jb flows A (qg caps flows ws)) R P g ws (qI h ws)=some (qR (R,P,g) (qx caps flows (qg caps flows ws) ws)):=v58_eq hn hw hfit (by omega) hnow hnz
 obtain ⟨o1,ho1⟩:∃ o,o=qR (R,P,g) (qx caps flows (qg caps flows ws) ws):=⟨_,rfl⟩
 have hsb':∀ j,j < caps.length->0<=(qI h ws).getD j 0/\(qI h ws).getD j 0<=2000000000:=fun j hj=>by have:=hsb j hj;simp only at this;omega
 have e5:=l34_16 hn (R:=o1.1) (P:=o1.2.1) (g:=o1.2.2) (ws:=ws) hsl hsb' (A':=jb flows A (qg caps flows ws)) (now:=qg caps flows ws)
 have hmw:Wt caps.length (mnL (qI h ws)):=by
  have:=mn_wt (h:=qI h ws) fun j hj=>(hsb' j (by rw [<- hsl];exact hj)).1
  rwa [show (qI h ws).length=caps.length from hsl] at this
 have e6:K7 (jb flows A (qg caps flows ws)) (mnL (qI h ws)) caps flows (jb flows A (qg caps flows ws)) o1.1 o1.2.1 o1.2.2 ws (qI h ws)=some (qR (o1.1,o1.2.1,o1.2.2) (qx caps flows (jb flows A (qg caps flows ws)) (mnL (qI h ws)))):=
  qil hn hmw hfit (by omega) hsr hsz
 obtain ⟨o2,ho2⟩:∃ o,o=qR (o1.1,o1.2.1,o1.2.2) (qx caps flows (jb flows A (qg caps flows ws)) (mnL (qI h ws))):=⟨_,rfl⟩
 have e7:v60 (qg caps flows ws) caps flows (jb flows A (qg caps flows ws)) o2.1 o2.2.1 o2.2.2 ws (qI h ws)=some (ldL caps flows (qg caps flows ws)):=SG hn (by omega) hnow
 have hlb:∀ k,0<=(ldL caps flows (qg caps flows ws)).getD k 0/\(ldL caps flows (qg caps flows ws)).getD k 0<=3000000000000000:=fun k=>by
  by_cases hk:k < caps.length
  ·rw [show (ldL caps flows (qg caps flows ws)).getD k 0=qn flows (qg caps flows ws) k from qr _ hk]
   have:=qcL hn (by omega) hnow k
   omega
  ·rw [out1 (by rw [show (ldL caps flows (qg caps flows ws)).length=caps.length from qq _ _];omega)];omega
 have e8:v61 (ldL caps flows (qg caps flows ws)) caps flows (jb flows A (qg caps flows ws)) o2.1 o2.2.1 o2.2.2 ws (qI h ws)=some (tgS caps flows (qg caps flows ws):Int):=by
  rw [qeO hn (show (ldL caps flows (qg caps flows ws)).length=caps.length from qq _ _) hlb,(Gj hn hnow hnz).1]
 have e9:=l34_32 hn hw hfit (R:=o2.1) (P:=o2.2.1) (g:=o2.2.2) (h:=qI h ws) (A':=jb flows A (qg caps flows ws))
 have e132:gN caps flows (jb flows A (qg caps flows ws)) o2.1 o2.2.1 o2.2.2 ws (qI h ws) (qg caps flows ws)=some (nxL caps flows ws):=by
  unfold gN Jz;(repeat rewrite [obE])
  rw [e7]
  simp only [qh,qf,cond_true]
  rw [e8]
  simp only [qh,qf,cond_true]
  unfold GX JA;(repeat rewrite [obE])
  rw [e9]
  rfl
 have e76:Gn caps flows (jb flows A (qg caps flows ws)) o1.1 o1.2.1 o1.2.2 ws (qI h ws) (qg caps flows ws)=some (o2.1,o2.2.1,o2.2.2,nxL caps flows ws):=by
  unfold Gn KB;(repeat rewrite [obE])
  rw [Int.toNat_natCast,e5]
  simp only [qh,qf,cond_true]
  unfold GW Jy;(repeat rewrite [obE])
  rw [e6,<- ho2]
  simp only [qh,qf,cond_true]
  rw [e132,qd (Int.le_refl _),qd (show ((qI h ws).length:Int)<=((2147483648:Nat):Int) by have:=hsl;simp only at this;omega)]
  rfl
 have hR:rdS caps flows (ws,A,h,R,P,g)=(nxL caps flows ws,jb flows A (qg caps flows ws),qI h ws,o2):=by
  unfold rdS
  rw [ho2,ho1]
 rw [hR]
 unfold v34 tv34;(repeat rewrite [obE])
 rw [e1]
 simp only [qh,qf,cond_true]
 unfold JS Kz;(repeat rewrite [obE])
 rw [e2]
 simp only [qh,qf,cond_true]
 rw [e3]
 simp only [qh,qf,cond_true]
 unfold JT KA;(repeat rewrite [obE])
 rw [e4,<- ho1]
 simp only [qh,qf,cond_true]
 rw [e76]
 rfl
end
def Gc (caps:List Int) (flows:Fl):Bool:=(List.range flows.length).all fun i=>!decide ((chS caps flows (w0L caps.length) i).1 < 0)
theorem fit_iff {caps:List Int} {flows:Fl}:Gc caps flows=true↔Fit caps flows:=by
 unfold Gc
 rw [List.all_eq_true]
 constructor
 ·intro h i hi
  have h1:=h i (List.mem_range.2 hi)
  rcases JW caps (flows.getD i []) (w0L caps.length) (flows.getD i []).length with ⟨h2,_⟩ | ⟨b,h2,h3,_⟩
  ·have e:(chS caps flows (w0L caps.length) i).1=-1:=h2
   rw [e] at h1
   exact absurd h1 (by decide)
  ·exact ⟨b,h2,h3⟩
 ·intro h i hi
  obtain ⟨t,ht,hu⟩:=h i (List.mem_range.1 hi)
  rcases JW caps (flows.getD i []) (w0L caps.length) (flows.getD i []).length with ⟨_,h2⟩ | ⟨b,_,_,h4,_⟩
  ·rw [h2 t ht] at hu;cases hu
  ·have e:(chS caps flows (w0L caps.length) i).1=(b:Int):=congrArg Prod.fst h4
   rw [e,decide_eq_false (by omega)];rfl
def gp (caps:List Int) (flows:Fl) (r:Int):Bst:=(stN caps flows (r.toNat+1)).2.2.2
def JX (caps:List Int) (flows:Fl) (r:Int):List (List Int)×List Int×Int×Int:=
 cond (qw caps flows&&decide (0<=r/\r<=1000)) (cond (Gc caps flows) ((gp caps flows r).1,(gp caps flows r).2.1,(gp caps flows r).2.2,0) ([],[],0,4)) ([],[],0,1)
theorem qeD {caps:List Int} {flows:Fl} {rates:List (List Int)} {prices:List Int} (hf:Few caps flows rates prices) (r:Int):v14 caps flows r=some (JX caps flows r):=by
 unfold v14 tv14 JX;(repeat rewrite [obE])
 rw [qeG hf]
 simp only [qh,qf,cond_true,qE]
 cases hv:qw caps flows with
 | false=>rfl
 | true=>
 rw [cond_true,Bool.true_and]
 by_cases c1:r < 0
 ·rw [qd c1,decide_eq_false (show ¬ (0<=r/\r<=1000) by omega)];rfl
 rw [qe c1]
 by_cases c2:r > 1000
 ·rw [qd c2,decide_eq_false (show ¬ (0<=r/\r<=1000) by omega)];rfl
 rw [qe c2,decide_eq_true (show 0<=r/\r<=1000 by omega),cond_true]
 have hn:=KW hv
 have hc:=hn.c1
 have hfl:=hn.f1
 have hw:=gD caps.length
 have e0:jR FU r ((List.replicate caps.length (0:Int)).length:Int) 0 caps flows 0 caps flows [] [] 0 (List.replicate caps.length 0) (List.replicate caps.length 0) [] []=some (w0L caps.length):=by
  rw [List.length_replicate,show List.replicate caps.length (0:Int)=tab caps.length fun t=>if t < 0 then (1024:Int) else 0 from (qG _).trans (KK _ _)]
  refine qp (m:=caps.length) (by omega) (fun n j (l:List Int)=>jR n r (caps.length:Int) j caps flows 0 caps flows [] [] 0 l (tab caps.length fun t=>if t < 0 then (1024:Int) else 0) [] []) (fun j=>tab caps.length fun t=>if t < j then (1024:Int) else 0) (w0L caps.length) (fun n j hj=>?_) fun n=>?_
  ·show jR (n+1) _ _ _ _ _ _ _ _ _ _ _ _ _ _ _=jR n _ _ _ _ _ _ _ _ _ _ _ _ _ _ _
   rw [qaX];unfold Gv ck;rw [qd (show (j:Int) < (caps.length:Int) by omega),qd (show (0:Int)<=(j:Int) by omega),up1 (by omega)]
   simp only [Int.toNat_natCast,qq]
   rw [qd (show (j:Int) < (caps.length:Int) by omega),qd hj,K1 (fun _=>(1024:Int)) (fun _=>0) rfl]
  ·show jR (n+1) _ _ _ _ _ _ _ _ _ _ _ _ _ _ _=_
   rw [qaX];unfold Gv ck;rw [qe (show ¬ (caps.length:Int) < (caps.length:Int) by omega)]
   exact congrArg some (qm fun t ht=>if_pos ht)
 have e1:v31 caps flows [] [] 0 (w0L caps.length) (List.replicate caps.length 0)=some (rtT flows fun _ _=>0):=v31_eq hn (fun _ _=>0) (fun _ _ _ _=>rfl)
 have e2:qO FU r (flows.length:Int) 0 0 caps flows (rtT flows fun _ _=>0) [] [] 0 (w0L caps.length) (List.replicate caps.length 0) [] []=some (cond (Gc caps flows) (.inr ()) (.inl (4,0))):=by
  refine qdE (m:=flows.length) (by omega) (fun n i=>qO n r (flows.length:Int) i 0 caps flows (rtT flows fun _ _=>0) [] [] 0 (w0L caps.length) (List.replicate caps.length 0) [] []) ((4,0):Int×Int) (fun i=>decide ((chS caps flows (w0L caps.length) i).1 < 0)) (fun n i hi=>?_) fun n=>?_
  ·show qO (n+1) _ _ _ _ _ _ _ _ _ _ _ _ _ _=_
   rw [D3];unfold gU;(repeat rewrite [obE]);rw [qd (show (i:Int) < (flows.length:Int) by omega),qeK hn hw hi,up1 (by omega)]
   rfl
  ·show qO (n+1) _ _ _ _ _ _ _ _ _ _ _ _ _ _=_
   rw [D3];unfold gU;(repeat rewrite [obE]);rw [qe (show ¬ (flows.length:Int) < (flows.length:Int) by omega)]
 have e36:qM r caps flows 0 caps flows [] [] 0 (List.replicate caps.length 0) (List.replicate caps.length 0) [] []=some (cond (Gc caps flows) (.inr (0,(gp caps flows r).1,(gp caps flows r).2.1,(gp caps flows r).2.2)) (.inl (4,0))):=by
  unfold qM Kx;(repeat rewrite [obE])
  rw [e0]
  simp only [qh,qf,cond_true]
  rw [e1]
  simp only [qh,qf,cond_true]
  unfold gq Ky;(repeat rewrite [obE])
  rw [e2]
  cases hfit:Gc caps flows with
  | false=>rfl
  | true=>
   have hfit':=fit_iff.1 hfit
   have w1:wI (r+1)=((r.toNat+1:Nat):Int):=by rw [qi (by omega) (by omega)];omega
   have h32:jj FU ((r.toNat+1:Nat):Int) 0 0 caps flows (rtT flows fun _ _=>0) [] [] 0 (w0L caps.length) (List.replicate caps.length 0) [] []=
     some ((stN caps flows (r.toNat+1)).2.1,(stN caps flows (r.toNat+1)).2.2.2.1,(stN caps flows (r.toNat+1)).2.2.2.2.1,(stN caps flows (r.toNat+1)).2.2.2.2.2,(stN caps flows (r.toNat+1)).1,(stN caps flows (r.toNat+1)).2.2.1):=by
    rw [qG]
    refine qp (m:=r.toNat+1) (by omega) (fun n j (s:Stt)=>jj n ((r.toNat+1:Nat):Int) j 0 caps flows s.2.1 s.2.2.2.1 s.2.2.2.2.1 s.2.2.2.2.2 s.1 s.2.2.1 [] []) (stN caps flows) _ (fun n j hj=>?_) fun n=>?_
    ·show jj (n+1) _ _ _ _ _ _ _ _ _ _ _ _ _=jj n _ _ _ _ _ (rdS caps flows (stN caps flows j)).2.1 (rdS caps flows (stN caps flows j)).2.2.2.1 (rdS caps flows (stN caps flows j)).2.2.2.2.1 (rdS caps flows (stN caps flows j)).2.2.2.2.2 (rdS caps flows (stN caps flows j)).1 (rdS caps flows (stN caps flows j)).2.2.1 _ _
     have hv34:=v34_eq hn hfit' (show j<=1000 by omega) (qfR hn hfit' j)
     rw [D4];unfold gV;(repeat rewrite [obE]);rw [qd (show (j:Int) < ((r.toNat+1:Nat):Int) by omega),hv34,up1 (by omega)]
     rfl
    ·show jj (n+1) _ _ _ _ _ _ _ _ _ _ _ _ _=_
     rw [D4];unfold gV;(repeat rewrite [obE]);rw [qe (show ¬ ((r.toNat+1:Nat):Int) < ((r.toNat+1:Nat):Int) by omega)]
   simp only [cond_true,gR,gw,qh,qf,cond_false]
   unfold GV Jx;(repeat rewrite [obE])
   rw [w1,h32]
   rfl
 rw [Int.toNat_natCast,e36,qd (Int.le_refl _),qd (show (caps.length:Int)<=((2147483648:Nat):Int) by omega)]
 cases Gc caps flows<;>rfl
theorem l42 (l:List Int) (links:Int) (hl:Len l):∀ (k n i:Nat) (last:Int),i+k=l.length->k < n->(i=0->last=-1)->(0 < i->last=l.getD (i - 1) 0/\0<=last)->
  gz n l links (i:Int)=some (cond (gM links last (l.drop i)) (.inr ()) (.inl false)):=by
 intro k
 induction k with
 | zero=>
  intro n i last h1 h2 h3 h4
  cases n with
  | zero=>omega
  | succ n=>
   rw [qbm];unfold Kj ck;rw [decide_eq_false (show ¬ ((i:Int) < (l.length:Int)) by omega),List.drop_of_length_le (show l.length<=i by omega)]
   rfl
 | succ k ih=>
  intro n i last h1 h2 h3 h4
  cases n with
  | zero=>omega
  | succ n=>
   have hi:i < l.length:=by omega
   have hl':l.length<=9223372036854775807:=hl
   rw [qbm];unfold Kj ck;rw [decide_eq_true (show (i:Int) < (l.length:Int) by omega),decide_eq_true (show (0:Int)<=(i:Int) by omega),up1 (by omega)]
   simp only [cond_true,Int.toNat_natCast]
   rw [Ku hi 0,gM]
   have step:0<=l.getD i 0->gz n l links ((i+1:Nat):Int)=some (cond (gM links (l.getD i 0) (l.drop (i+1))) (.inr ()) (.inl false)):=fun h0=>ih n (i+1) _ (by omega) (by omega) (by omega) fun _=>⟨by simp,h0⟩
   by_cases c1:l.getD i 0 < 0
   ·rw [decide_eq_true c1,decide_eq_false (show ¬ (last < l.getD i 0/\l.getD i 0 < links) by
     rintro ⟨h5,_⟩
     by_cases hz:i=0
     ·rw [h3 hz] at h5;omega
     ·have:=h4 (by omega);omega)]
    rfl
   rw [decide_eq_false c1]
   by_cases c2:l.getD i 0≥links
   ·rw [decide_eq_true c2,decide_eq_false (show ¬ (last < l.getD i 0/\l.getD i 0 < links) by omega)]
    rfl
   rw [decide_eq_false c2]
   simp only [cond_false]
   by_cases hz:i=0
   ·subst hz
    rw [decide_eq_false (show ¬ ((0:Nat):Int) > 0 by omega),decide_eq_true (show last < l.getD 0 0/\l.getD 0 0 < links by rw [h3 rfl];omega)]
    simp only [cond_true,cond_false]
    exact step (by omega)
   ·obtain ⟨h5,h6⟩:=h4 (by omega)
    rw [decide_eq_true (show (i:Int) > 0 by omega),dn1 (by omega) (by omega),decide_eq_true (show (0:Int)<=((i - 1:Nat):Int) by omega),decide_eq_true (show ((i - 1:Nat):Int) < (l.length:Int) by omega)]
    simp only [cond_true,Int.toNat_natCast]
    by_cases c3:l.getD i 0<=l.getD (i - 1) 0
    ·rw [decide_eq_true c3,decide_eq_false (show ¬ (last < l.getD i 0/\l.getD i 0 < links) by omega)];rfl
    ·rw [decide_eq_false c3,decide_eq_true (show last < l.getD i 0/\l.getD i 0 < links by omega)]
     simp only [cond_true,cond_false]
     exact step (by omega)
theorem v42_eq (l:List Int) (links:Int) (hl:Len l):v42 l links=some (jP l links):=by
 unfold v42 tv42 jP;(repeat rewrite [obE])
 have h:=l42 l links hl l.length FU 0 (-1) (by omega) (by have:l.length<=9223372036854775807:=hl;unfold FU;omega) (fun _=>rfl) (fun h=>by omega)
 simp only [Int.natCast_zero,List.drop_zero] at h
 rw [h]
 cases gM links (-1) l with
 | false=>rfl
 | true=>
  simp only [cond_true,gR,gw,qh,cond_false,qd6]
  congr 1
  apply decide_eq_decide.2
  constructor<;>intro h<;>omega
theorem l24_0 (caps:List Int) (flows:Fl) (hl:caps.length<=20):jG FU 0 caps flows=some (cond (KU caps) (.inr ()) (.inl false)):=by
 unfold KU
 rw [<- qD caps 0 fun n=>decide (0<=n/\n<=1000)]
 refine qC (m:=caps.length) (by omega) (fun n j=>jG n j caps flows) _ (fun n i hi=>?_) fun n=>?_
 ·show jG (n+1) _ _ _=_
  rw [qa5];unfold Kb;rw [decide_eq_true (show (i:Int) < (caps.length:Int) by omega),decide_eq_true (show (0:Int)<=(i:Int) by omega),up1 (by omega)]
  simp only [cond_true,Int.toNat_natCast]
  by_cases c1:caps.getD i 0 < 0
  ·rw [decide_eq_true c1,decide_eq_false (show ¬ (0<=caps.getD i 0/\caps.getD i 0<=1000) by omega)];rfl
  by_cases c2:caps.getD i 0 > 1000
  ·rw [decide_eq_false c1,decide_eq_true c2,decide_eq_false (show ¬ (0<=caps.getD i 0/\caps.getD i 0<=1000) by omega)];rfl
  rw [decide_eq_false c1,decide_eq_false c2,decide_eq_true (show 0<=caps.getD i 0/\caps.getD i 0<=1000 by omega)];rfl
 ·show jG (n+1) _ _ _=_
  rw [qa5];unfold Kb;rw [decide_eq_false (show ¬ (caps.length:Int) < (caps.length:Int) by omega)]
  rfl
theorem l24_32 (x0:Int) (f:List (List Int)) (caps:List Int) (flows:Fl) (hl:f.length<=20) (hp:∀ k,(f.getD k []).length<=20):qL FU x0 f 0 caps flows=some (cond (f.all fun l=>jP l caps.length) (.inr ()) (.inl false)):=by
 rw [<- qD f [] fun l=>jP l caps.length]
 refine qC (m:=f.length) (by omega) (fun n j=>qL n x0 f j caps flows) _ (fun n i hi=>?_) fun n=>?_
 ·show qL (n+1) _ _ _ _ _=_
  have:=hp i
  rw [Se];unfold Jj;(repeat rewrite [obE]);rw [decide_eq_true (show (i:Int) < (f.length:Int) by omega),decide_eq_true (show (0:Int)<=(i:Int) by omega),up1 (by omega)]
  simp only [cond_true,Int.toNat_natCast]
  rw [v42_eq _ _ (show (f.getD i []).length<=9223372036854775807 by omega)]
  simp only [qh,qf,cond_true,qE]
 ·show qL (n+1) _ _ _ _ _=_
  rw [Se];unfold Jj;(repeat rewrite [obE]);rw [decide_eq_false (show ¬ (f.length:Int) < (f.length:Int) by omega)]
  rfl
theorem l24_16 (caps:List Int) (flows:Fl) (hl:flows.length<=20) (hf:∀ i,(flows.getD i []).length<=20) (hp:∀ i k,((flows.getD i []).getD k []).length<=20):qX FU 0 caps flows=some (cond (flows.all (gH caps.length)) (.inr ()) (.inl false)):=by
 rw [<- qD flows [] (gH caps.length)]
 refine qC (m:=flows.length) (by omega) (fun n j=>qX n j caps flows) _ (fun n i hi=>?_) fun n=>?_
 ·show qX (n+1) _ _ _=_
  rw [Sd];unfold Ji;(repeat rewrite [obE]);rw [decide_eq_true (show (i:Int) < (flows.length:Int) by omega),decide_eq_true (show (0:Int)<=(i:Int) by omega),up1 (by omega)]
  simp only [cond_true,Int.toNat_natCast]
  unfold gH
  rw [l24_32 _ _ _ _ (hf i) (hp i)]
  by_cases c1:((flows.getD i []).length:Int) < 1
  ·rw [decide_eq_true c1,decide_eq_false (show ¬ (1<=(flows.getD i []).length/\(flows.getD i []).length<=4) by omega)];rfl
  by_cases c2:((flows.getD i []).length:Int) > 4
  ·rw [decide_eq_false c1,decide_eq_true c2,decide_eq_false (show ¬ (1<=(flows.getD i []).length/\(flows.getD i []).length<=4) by omega)];rfl
  rw [decide_eq_false c1,decide_eq_false c2,decide_eq_true (show 1<=(flows.getD i []).length/\(flows.getD i []).length<=4 by omega)]
  simp only [cond_true,cond_false]
  cases (flows.getD i []).all fun l=>jP l caps.length<;>rfl
 ·show qX (n+1) _ _ _=_
  rw [Sd];unfold Ji;(repeat rewrite [obE]);rw [decide_eq_false (show ¬ (flows.length:Int) < (flows.length:Int) by omega)]
  rfl
theorem qeF {caps:List Int} {flows:Fl} {rates:List (List Int)} {prices:List Int} (h:Few caps flows rates prices):v24 caps flows=some (qw caps flows):=by
 unfold v24 tv24 qw;(repeat rewrite [obE])
 rw [l24_0 caps flows h.hc,l24_16 caps flows h.hf h.flow h.path]
 by_cases c1:(caps.length:Int) < 1
 ·rw [decide_eq_true c1,decide_eq_false (show ¬ (1<=caps.length/\caps.length<=8) by omega)];rfl
 by_cases c2:(caps.length:Int) > 8
 ·rw [decide_eq_false c1,decide_eq_true c2,decide_eq_false (show ¬ (1<=caps.length/\caps.length<=8) by omega)];rfl
 by_cases c3:(flows.length:Int) < 1
 ·rw [decide_eq_false c1,decide_eq_false c2,decide_eq_true c3,decide_eq_false (show ¬ (1<=flows.length/\flows.length<=8) by omega)];simp
 by_cases c4:(flows.length:Int) > 8
 ·rw [decide_eq_false c1,decide_eq_false c2,decide_eq_false c3,decide_eq_true c4,decide_eq_false (show ¬ (1<=flows.length/\flows.length<=8) by omega)];simp
 rw [decide_eq_false c1,decide_eq_false c2,decide_eq_false c3,decide_eq_false c4,decide_eq_true (show 1<=caps.length/\caps.length<=8 by omega),decide_eq_true (show 1<=flows.length/\flows.length<=8 by omega)]
 simp only [cond_false,Bool.true_and]
 cases KU caps with
 | false=>rfl
 | true=>cases flows.all (gH caps.length)<;>rfl
theorem v19_eq {caps:List Int} {flows:Fl} {rates:List (List Int)} {prices:List Int} (h:Few caps flows rates prices):v19 caps flows rates=some (ja flows rates):=by
 have hr:=h.hr
 unfold v19 tv19 ja;(repeat rewrite [obE])
 rw [JP]
 simp only [qE]
 by_cases c1:rates.length=flows.length
 case neg=>rw [decide_eq_false c1];rfl
 rw [decide_eq_true c1]
 have hL:jE FU rates 0 caps flows=some (cond ((List.range rates.length).all fun i=>cond (decide ((rates.getD i []).length=(flows.getD i []).length)) (upto 1000000000 (rates.getD i [])) false) (.inr ()) (.inl false)):=by
  refine qC (m:=rates.length) (by omega) (fun n j=>jE n rates j caps flows) _ (fun n i hi=>?_) fun n=>?_
  ·show jE (n+1) _ _ _ _=_
   have hl:=h.rate i
   have h16:qK FU rates (i:Int) 0 caps flows=some (cond (upto 1000000000 (rates.getD i [])) (.inr ()) (.inl false)):=by
    unfold upto
    rw [<- qD (rates.getD i []) 0 fun n=>decide (0<=n/\n<=1000000000)]
    refine qC (m:=(rates.getD i []).length) (by omega) (fun n j=>qK n rates (i:Int) j caps flows) _ (fun n j hj=>?_) fun n=>?_
    ·show qK (n+1) _ _ _ _ _=_
     rw [Sb];unfold Jh ck;rw [decide_eq_true (show (0:Int)<=(i:Int) by omega),decide_eq_true (show (i:Int) < (rates.length:Int) by omega)]
     simp only [cond_true,Int.toNat_natCast]
     rw [decide_eq_true (show (j:Int) < ((rates.getD i []).length:Int) by omega),decide_eq_true (show (0:Int)<=(j:Int) by omega),up1 (by omega)]
     simp only [cond_true]
     by_cases c2:(rates.getD i []).getD j 0 < 0
     ·rw [decide_eq_true c2,decide_eq_false (show ¬ (0<=(rates.getD i []).getD j 0/\(rates.getD i []).getD j 0<=1000000000) by omega)];rfl
     by_cases c3:(rates.getD i []).getD j 0 > 1000000000
     ·rw [decide_eq_false c2,decide_eq_true c3,decide_eq_false (show ¬ (0<=(rates.getD i []).getD j 0/\(rates.getD i []).getD j 0<=1000000000) by omega)];rfl
     rw [decide_eq_false c2,decide_eq_false c3,decide_eq_true (show 0<=(rates.getD i []).getD j 0/\(rates.getD i []).getD j 0<=1000000000 by omega)];rfl
    ·show qK (n+1) _ _ _ _ _=_
     rw [Sb];unfold Jh ck;rw [decide_eq_true (show (0:Int)<=(i:Int) by omega),decide_eq_true (show (i:Int) < (rates.length:Int) by omega)]
     simp only [cond_true,Int.toNat_natCast]
     rw [decide_eq_false (show ¬ ((rates.getD i []).length:Int) < ((rates.getD i []).length:Int) by omega)]
     rfl
   rw [qa1];unfold J7 ck;(repeat rewrite [obE]);rw [decide_eq_true (show (i:Int) < (rates.length:Int) by omega),decide_eq_true (show (0:Int)<=(i:Int) by omega),decide_eq_true (show (i:Int) < (flows.length:Int) by omega),up1 (by omega)]
   simp only [cond_true,Int.toNat_natCast]
   rw [JP,h16]
   simp only [qE]
   cases decide ((rates.getD i []).length=(flows.getD i []).length) with
   | false=>rfl
   | true=>cases upto 1000000000 (rates.getD i [])<;>rfl
  ·show jE (n+1) _ _ _ _=_
   rw [qa1];unfold J7 ck;(repeat rewrite [obE]);rw [decide_eq_false (show ¬ (rates.length:Int) < (rates.length:Int) by omega)]
   rfl
 rw [hL]
 simp only [cond_true,Bool.true_and]
 cases (List.range rates.length).all fun i=>cond (decide ((rates.getD i []).length=(flows.getD i []).length)) (upto 1000000000 (rates.getD i [])) false<;>rfl
theorem qhc (l:List Int) (hl:l.length<=20) (k:Int):v37 l k=some (l.any (·==k)):=by
 unfold v37 tv37;(repeat rewrite [obE])
 have h0:=qhf (m:=l.length) (by omega) (fun n j=>j8 n l k j) (fun j=>l.getD j 0==k) (fun n j hj=>by
  show j8 (n+1) _ _ _=_
  rw [qbi];unfold Kh;rw [decide_eq_true (show (j:Int) < (l.length:Int) by omega),decide_eq_true (show (0:Int)<=(j:Int) by omega),up1 (by omega)]
  simp only [cond_true,Int.toNat_natCast]) fun n=>by
  show j8 (n+1) _ _ _=_
  rw [qbi];unfold Kh;rw [decide_eq_false (show ¬ (l.length:Int) < (l.length:Int) by omega)]
  rfl
 rw [Ks l 0 fun x=>x==k] at h0
 rw [h0]
 cases l.any fun x=>x==k<;>rfl
section
variable {caps : List Int} {flows : Fl} {rates : List (List Int)} {prices : List Int} (h : Ok caps flows rates prices)
include h
theorem pk_on {i t:Nat} (hi:i < flows.length) (ht:t < (flows.getD i []).length) (r:Int) (k:Nat):pk (pth flows i t) r k=cond ((pth flows i t).any (·==(k:Int))) r 0:=by
 unfold pk
 cases ha:(pth flows i t).any (·==(k:Int)) with
 | true=>
  rw [<- Ks (pth flows i t) 0 fun x=>x==(k:Int)] at ha
  obtain ⟨p,hp,he⟩:=List.any_eq_true.1 ha
  have hp':=List.mem_range.1 hp
  rw [gG hp' (fun j hj hne=>?_),he]
  have he':(pth flows i t).getD p 0=(k:Int):=by simpa using he
  have hd:(pth flows i t).getD j 0≠(k:Int):=by
   intro e
   by_cases hlt:j < p
   ·have:=h.inc i t j p hi ht hlt hp';omega
   ·have:=h.inc i t p j hi ht (by omega) hj;omega
  rw [beq_false_of_ne hd];rfl
 | false=>
  rw [Gh (g:=fun _=>0) (fun j hj=>?_),Kw];rfl
  have:=List.any_eq_false.1 ha _ (qT hj 0)
  rw [Bool.eq_false_iff.2 this];rfl
theorem l39_16 {i:Nat} (hi:i < flows.length) (k:Nat) (s:Int) (hs:0<=s/\s<=20*(20*(20*1000000000))) :
  ju FU rates (k:Int) s (i:Int) 0 caps flows=some (s+ql (flows.getD i []).length fun t=>pk (pth flows i t) (rt rates i t) k):=by
 have h4:=(h.sub i hi).2
 have hrl:=h.rli i hi
 have hr:=h.rl
 have:=qp (m:=(flows.getD i []).length) (by omega) (fun n j (s:Int)=>ju n rates (k:Int) s (i:Int) j caps flows) (fun j=>s+ql j fun t=>pk (pth flows i t) (rt rates i t) k)
  (s+ql (flows.getD i []).length fun t=>pk (pth flows i t) (rt rates i t) k) (fun n j hj=>?_) fun n=>?_
 ·simp only [ql,Int.add_zero] at this
  exact this
 ·show ju (n+1) _ _ _ _ _ _ _=ju n _ _ _ _ _ _ _
  have hb:=qcR h (i:=i) (j:=j+1) (by omega) k
  have hb0:=qcR h (i:=i) (j:=j) (by omega) k
  have hh:=(h.hop i j hi hj).2
  have hp:=pk_on h hi hj (rt rates i j) k
  have hrt:rt rates i j=(rates.getD i []).getD j 0:=rfl
  have hrb:=h.rate i j
  rw [Sn];unfold Jm ck;(repeat rewrite [obE]);rw [decide_eq_true (show (0:Int)<=(i:Int) by omega),decide_eq_true (show (i:Int) < (flows.length:Int) by omega)]
  simp only [cond_true,Int.toNat_natCast]
  rw [decide_eq_true (show (j:Int) < ((flows.getD i []).length:Int) by omega),decide_eq_true (show (0:Int)<=(j:Int) by omega),decide_eq_true (show (i:Int) < (rates.length:Int) by omega),decide_eq_true (show (j:Int) < ((rates.getD i []).length:Int) by omega),qhc _ (show (pth flows i j).length<=20 by omega),up1 (by omega)]
  simp only [cond_true,qh,qf]
  simp only [ql] at hb ⊢
  rw [hp] at hb ⊢
  cases (pth flows i j).any (·==(k:Int)) with
  | true=>
   simp only [cond_true] at hb ⊢
   rw [qi (by omega) (by omega)]
   congr 1
   omega
  | false=>simp only [cond_false,Int.add_zero]
 ·show ju (n+1) _ _ _ _ _ _ _=_
  rw [Sn];unfold Jm ck;(repeat rewrite [obE]);rw [decide_eq_true (show (0:Int)<=(i:Int) by omega),decide_eq_true (show (i:Int) < (flows.length:Int) by omega)]
  simp only [cond_true,Int.toNat_natCast]
  rw [decide_eq_false (show ¬ ((flows.getD i []).length:Int) < ((flows.getD i []).length:Int) by omega)]
  rfl
theorem v39_eq (k:Nat):v39 caps flows rates (k:Int)=some (qn flows rates k):=by
 have hf:=h.few.hf
 have h0:j9 FU rates (k:Int) 0 0 caps flows=some (qn flows rates k):=by
  refine qp (m:=flows.length) (by omega) (fun n j (s:Int)=>j9 n rates (k:Int) s j caps flows) (fun j=>ql j fun i=>ql (flows.getD i []).length fun t=>pk (pth flows i t) (rt rates i t) k) (qn flows rates k) (fun n i hi=>?_) fun n=>?_
  ·show j9 (n+1) _ _ _ _ _ _=j9 n _ _ _ _ _ _
   rw [qbj];unfold GF;(repeat rewrite [obE]);rw [decide_eq_true (show (i:Int) < (flows.length:Int) by omega),l39_16 h hi k _ (qeS h (by omega) k),up1 (by omega)]
   rfl
  ·show j9 (n+1) _ _ _ _ _ _=_
   rw [qbj];unfold GF;(repeat rewrite [obE]);rw [decide_eq_false (show ¬ (flows.length:Int) < (flows.length:Int) by omega)]
   rfl
 unfold v39 tv39;(repeat rewrite [obE])
 rw [h0];rfl
theorem v20_eq:v20 caps flows rates=some (q9 caps flows rates):=by
 have hc:=h.few.hc
 have h0:jF FU rates 0 caps flows=some (cond (q9 caps flows rates) (.inr ()) (.inl false)):=by
  unfold q9
  refine qC (m:=caps.length) (by omega) (fun n j=>jF n rates j caps flows) _ (fun n k hk=>?_) fun n=>?_
  ·show jF (n+1) _ _ _ _=_
   have hcap:=h.cap k
   have w1:wI (1000000*caps.getD k 0)=1000000*caps.getD k 0:=qi (by omega) (by omega)
   rw [qa2];unfold J8;(repeat rewrite [obE]);rw [v39_eq h k,decide_eq_true (show (k:Int) < (caps.length:Int) by omega),decide_eq_true (show (0:Int)<=(k:Int) by omega),up1 (by omega)]
   simp only [cond_true,Int.toNat_natCast,qh,qf,w1]
   by_cases c:qn flows rates k<=1000000*caps.getD k 0
   ·rw [decide_eq_true c,decide_eq_false (show ¬ qn flows rates k > 1000000*caps.getD k 0 by omega)];rfl
   ·rw [decide_eq_false c,decide_eq_true (show qn flows rates k > 1000000*caps.getD k 0 by omega)];rfl
  ·show jF (n+1) _ _ _ _=_
   rw [qa2];unfold J8;(repeat rewrite [obE]);rw [decide_eq_false (show ¬ (caps.length:Int) < (caps.length:Int) by omega)]
   rfl
 unfold v20 tv20;(repeat rewrite [obE])
 rw [h0]
 cases q9 caps flows rates<;>rfl
theorem v21_eq (i:Nat):v21 (rates.getD i [])=some (qu (rates.getD i [])):=by
 have hl:=h.few.rate i
 have h0:jT FU (rates.getD i []) 0 0=some (qu (rates.getD i [])):=by
  refine qp (m:=(rates.getD i []).length) (by omega) (fun n j (s:Int)=>jT n (rates.getD i []) s j) (fun j=>ql j fun t=>rt rates i t) (qu (rates.getD i [])) (fun n j hj=>?_) fun n=>?_
  ·show jT (n+1) _ _ _=jT n _ _ _
   have hb:=qeg h (i:=i) (j:=j+1) (by omega)
   have hrt:rt rates i j=(rates.getD i []).getD j 0:=rfl
   simp only [ql] at hb ⊢
   rw [qa3];unfold J9;rw [decide_eq_true (show (j:Int) < ((rates.getD i []).length:Int) by omega),decide_eq_true (show (0:Int)<=(j:Int) by omega),up1 (by omega)]
   simp only [cond_true,Int.toNat_natCast]
   rw [qi (by omega) (by omega)]
  ·show jT (n+1) _ _ _=_
   rw [qa3];unfold J9;rw [decide_eq_false (show ¬ ((rates.getD i []).length:Int) < ((rates.getD i []).length:Int) by omega)]
   rfl
 unfold v21 tv21;(repeat rewrite [obE])
 rw [h0];rfl
end
theorem qhb {caps:List Int} {flows:Fl} {rates:List (List Int)} {prices:List Int} (h:Few caps flows rates prices):v30 caps flows prices=some (qN caps prices):=by
 have hp:=h.hp
 have h0:jH FU prices 0 caps flows=some (cond (upto 1000000000000 prices) (.inr ()) (.inl false)):=by
  unfold upto
  rw [<- qD prices 0 fun n=>decide (0<=n/\n<=1000000000000)]
  refine qC (m:=prices.length) (by omega) (fun n j=>jH n prices j caps flows) _ (fun n j hj=>?_) fun n=>?_
  ·show jH (n+1) _ _ _ _=_
   rw [qa7];unfold Kc;rw [decide_eq_true (show (j:Int) < (prices.length:Int) by omega),decide_eq_true (show (0:Int)<=(j:Int) by omega),up1 (by omega)]
   simp only [cond_true,Int.toNat_natCast]
   by_cases c2:prices.getD j 0 < 0
   ·rw [decide_eq_true c2,decide_eq_false (show ¬ (0<=prices.getD j 0/\prices.getD j 0<=1000000000000) by omega)];rfl
   by_cases c3:prices.getD j 0 > 1000000000000
   ·rw [decide_eq_false c2,decide_eq_true c3,decide_eq_false (show ¬ (0<=prices.getD j 0/\prices.getD j 0<=1000000000000) by omega)];rfl
   rw [decide_eq_false c2,decide_eq_false c3,decide_eq_true (show 0<=prices.getD j 0/\prices.getD j 0<=1000000000000 by omega)];rfl
  ·show jH (n+1) _ _ _ _=_
   rw [qa7];unfold Kc;rw [decide_eq_false (show ¬ (prices.length:Int) < (prices.length:Int) by omega)]
   rfl
 unfold v30 tv30 qN;(repeat rewrite [obE])
 rw [h0]
 cases upto 1000000000000 prices with
 | false=>rw [Bool.and_false];rfl
 | true=>
  simp only [cond_true,gR,gw,qh,cond_false,Bool.and_true]
  congr 1
  rw [qv]
  apply decide_eq_decide.2
  omega
end Go.Proofs.Ytpfphfobneehmaa
