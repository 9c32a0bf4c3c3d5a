/- MultiErrors: it returns true at every input; no conditions. -/
import Derived.Test.YtpfphfobneehmaaLMultiErrors0
import Derived.Test.YtpfphfobneehmaaRows
import Derived.ProofKit
set_option linter.all false
namespace Go.Proofs.Ytpfphfobneehmaa
open Go Go.AM Go.TM Go.Proofs
def Gs:List Int->Int
 | []=>0
 | x::l=>l.foldl max x
theorem qbc:∀ (l:List Int) (o:Int),o<=l.foldl max o/\∀ x∈l,x<=l.foldl max o
 | [],o=>⟨Int.le_refl _,fun x hx=>nomatch hx⟩
 | y::l,o=>by
  obtain ⟨h1,h2⟩:=qbc l (max o y)
  refine ⟨by simp only [List.foldl_cons];omega,fun x hx=>?_⟩
  simp only [List.foldl_cons]
  rcases List.mem_cons.1 hx with rfl | hx
  ·omega
  ·exact h2 x hx
theorem maxL_ge:∀ {l:List Int} {x:Int},x∈l->x<=Gs l
 | y::l,x,hx=>by
  obtain ⟨h1,h2⟩:=qbc l y
  rcases List.mem_cons.1 hx with rfl | hx
  ·exact h1
  ·exact h2 x hx
def gl (caps:List Int) (flows:Fl) (ws:List Int) (i t:Nat):Int:=cond ((chS caps flows ws i).1==(t:Int)) (1000000000*1024 / (chS caps flows ws i).2) 0
def ql (caps:List Int) (flows:Fl) (ws:List Int):List (List Int):=rtT flows (gl caps flows ws)
def fulS (caps:List Int) (flows:Fl) (ws:List Int) (k:Nat):Int:=
 Int.tdiv (Int.tdiv (qn flows (ql caps flows ws) k*caps.getD (tgS caps flows (ql caps flows ws)) 0) (qn flows (ql caps flows ws) (tgS caps flows (ql caps flows ws)))*1000) (caps.getD k 0)
def nxS (caps:List Int) (flows:Fl) (ws:List Int) (k:Nat):Int:=
 cond (decide (caps.getD k 0 > 0)) (min 1048576 (max 16 (Int.tdiv (ws.getD k 0*(1000+min (fulS caps flows ws k) 1000)) 1500))) (ws.getD k 0)
def nxL (caps:List Int) (flows:Fl) (ws:List Int):List Int:=tab caps.length (nxS caps flows ws)
def mnS (h:List Int) (k:Nat):Int:=max 16 (Int.tdiv (h.getD k 0*1024) (max 1 (Gs h)))
def mnL (h:List Int):List Int:=tab h.length (mnS h)
def jl (flows:Fl) (a b:List (List Int)):List (List Int):=rtT flows fun i t=>rt a i t+rt b i t
def qA (a b:List Int):List Int:=tab a.length fun k=>a.getD k 0+b.getD k 0
abbrev Bst:=List (List Int)×List Int×Int
def gP (o:Bst) (c:Cert):Bst:=cond c.2.2.2 (cond (decide (o.1.length=0)) (c.1,c.2.1,c.2.2.1) (cond (decide (c.2.2.1 < o.2.2)) (c.1,c.2.1,c.2.2.1) o)) o
abbrev Stt:=List Int×List (List Int)×List Int×Bst
def rdS (caps:List Int) (flows:Fl) (s:Stt):Stt:=
 (nxL caps flows s.1,jl flows s.2.1 (ql caps flows s.1),qA s.2.2.1 s.1,
  gP (gP s.2.2.2 (qC caps flows (ql caps flows s.1) s.1)) (qC caps flows (jl flows s.2.1 (ql caps flows s.1)) (mnL (qA s.2.2.1 s.1))))
def w0L (n:Nat):List Int:=tab n fun _=>1024
def stN (caps:List Int) (flows:Fl):Nat->Stt
 | 0=>(w0L caps.length,rtT flows (fun _ _=>0),tab caps.length (fun _=>0),[],[],0)
 | k+1=>rdS caps flows (stN caps flows k)
theorem w0_wt (n:Nat):Wt n (w0L n):=⟨qp _ _,fun k hk=>by unfold w0L;rw [qt _ hk];omega⟩
section
variable {caps : List Int} {flows : Fl} (hn : Nw caps flows) {ws : List Int} (hw : Wt caps.length ws) (hfit : Fit caps flows)
include hn hw hfit
theorem qai {i:Nat} (hi:i < flows.length):∃ b:Nat,b < (flows.getD i []).length/\qL caps (pth flows i b)=true/\(chS caps flows ws i).1=(b:Int)/\(16<=qq caps flows ws i/\qq caps flows ws i<=6291456)/\(162760<=gl caps flows ws i b/\gl caps flows ws i b<=64000000000)/\gl caps flows ws i b=1024000000000 / qq caps flows ws i/\∀ t:Nat,t≠b->gl caps flows ws i t=0:=by
 obtain ⟨b,h1,h2,h3,_,_,h4⟩:=qbt hn hw hfit hi
 have e1:(chS caps flows ws i).1=(b:Int):=congrArg Prod.fst h3
 have e2:gl caps flows ws i b=1024000000000 / qq caps flows ws i:=by
  unfold gl
  rw [e1,beq_self_eq_true];rfl
 refine ⟨b,h1,h2,e1,h4,?_,e2,fun t ht=>?_⟩
 ·rw [e2]
  refine ⟨(Int.le_ediv_iff_mul_le (by omega)).2 (by omega),?_⟩
  have:1024000000000 / qq caps flows ws i < 64000000001:=(Int.ediv_lt_iff_lt_mul (by omega)).2 (by omega)
  omega
 ·unfold gl
  rw [e1,show ((b:Int)==(t:Int))=false from by rw [qu];exact decide_eq_false (by omega)];rfl
theorem now_bd {i t:Nat} (hi:i < flows.length):0<=gl caps flows ws i t/\gl caps flows ws i t<=64000000000:=by
 obtain ⟨b,_,_,_,_,h,_,h0⟩:=qai hn hw hfit hi
 by_cases c:t=b
 ·rw [c];omega
 ·rw [h0 t c];omega
theorem qbD:Rg caps flows 64000000000 (ql caps flows ws):=by
 refine Jo (by omega) (fun i t hi ht=>now_bd hn hw hfit hi) fun i t hi ht h=>?_
 obtain ⟨b,_,hu,_,_,_,_,h0⟩:=qai hn hw hfit hi
 by_cases c:t=b
 ·rw [c];exact hu
 ·exact absurd (h0 t c) h
theorem qbC:Nz flows (ql caps flows ws):=by
 obtain ⟨b,hb,_,_,_,h,_⟩:=qai hn hw hfit (i:=0) (by have:=hn.f1;omega)
 have hf:=hn.f1
 refine ⟨0,b,by omega,hb,?_⟩
 show 0 < rt (rtT flows _) 0 b
 rw [qaj _ (by omega) hb];omega
theorem nx_wt:Wt caps.length (nxL caps flows ws):=by
 refine ⟨qp _ _,fun k hk=>?_⟩
 unfold nxL
 rw [qt _ hk]
 unfold nxS
 have:=hw.bd k hk
 cases decide (caps.getD k 0 > 0) with
 | true=>rw [cond_true];omega
 | false=>exact this
end
theorem mn_wt {h:List Int} (h0:∀ k,k < h.length->0<=h.getD k 0):Wt h.length (mnL h):=by
 refine ⟨qp _ _,fun k hk=>?_⟩
 unfold mnL
 rw [qt _ hk]
 unfold mnS
 have h1:=maxL_ge (jh hk 0)
 have h2:=h0 k hk
 have h3:Int.tdiv (h.getD k 0*1024) (max 1 (Gs h))<=1024:=by
  rw [Int.tdiv_eq_ediv_of_nonneg (by omega)]
  have:h.getD k 0*1024 / max 1 (Gs h) < 1025:=(Int.ediv_lt_iff_lt_mul (by omega)).2 (by omega)
  omega
 omega
structure Inv (caps:List Int) (flows:Fl) (k:Nat) (s:Stt):Prop where
 wt:Wt caps.length s.1
 rg:Rg caps flows (k*64000000000) s.2.1
 hl:s.2.2.1.length=caps.length
 hb:∀ j,j < caps.length->0<=s.2.2.1.getD j 0/\s.2.2.1.getD j 0<=k*1048576
 best:s.2.2.2=([],[],0)\/DG caps flows s.2.2.2
theorem qbf {caps:List Int} {flows:Fl} {o:Bst} {c:Cert} (ho:o=([],[],0)\/DG caps flows o) (hc:c.2.2.2=true->DG caps flows (c.1,c.2.1,c.2.2.1)):gP o c=([],[],0)\/DG caps flows (gP o c):=by
 unfold gP
 cases h:c.2.2.2 with
 | false=>exact ho
 | true=>
  cases decide (o.1.length=0) with
  | true=>exact .inr (hc h)
  | false=>
   cases decide (c.2.2.1 < o.2.2) with
   | true=>exact .inr (hc h)
   | false=>exact ho
section
variable {caps : List Int} {flows : Fl} (hn : Nw caps flows) (hfit : Fit caps flows)
include hn hfit
theorem qd9 {k:Nat} {s:Stt} (h:Inv caps flows k s):Rg caps flows (((k+1:Nat):Int)*64000000000) (jl flows s.2.1 (ql caps flows s.1))/\Nz flows (jl flows s.2.1 (ql caps flows s.1)):=by
 have hnow:=qbD hn h.wt hfit
 constructor
 ·refine Jo (by omega) (fun i t hi ht=>?_) fun i t hi ht hne=>?_
  ·have h1:=h.rg.rate i t
   have h2:=hnow.rate i t
   omega
  ·by_cases c:rt s.2.1 i t=0
   ·exact hnow.us i t hi ht fun e=>hne (by omega)
   ·exact h.rg.us i t hi ht c
 ·obtain ⟨i,t,hi,ht,hp⟩:=qbC hn h.wt hfit
  refine ⟨i,t,hi,ht,?_⟩
  unfold jl
  rw [qaj _ hi ht]
  have:=(h.rg.rate i t).1
  omega
theorem qd8 {k:Nat} {s:Stt} (h:Inv caps flows k s):(qA s.2.2.1 s.1).length=caps.length/\∀ j,j < caps.length->0<=(qA s.2.2.1 s.1).getD j 0/\(qA s.2.2.1 s.1).getD j 0<=((k+1:Nat):Int)*1048576:=by
 refine ⟨by unfold qA;rw [qp,h.hl],fun j hj=>?_⟩
 unfold qA
 rw [qt _ (by rw [h.hl];exact hj)]
 have h1:=h.hb j hj
 have h2:=h.wt.bd j hj
 omega
theorem qei {k:Nat} {s:Stt} (h:Inv caps flows k s):Inv caps flows (k+1) (rdS caps flows s):=by
 obtain ⟨h1,h2⟩:=qd9 hn hfit h
 obtain ⟨h3,h4⟩:=qd8 hn hfit h
 exact ⟨nx_wt hn h.wt hfit,h1,h3,h4,qbf (qbf h.best qaf) qaf⟩
theorem qc1:∀ k,Inv caps flows k (stN caps flows k)
 | 0=>⟨w0_wt _,Jo (by omega) (fun _ _ _ _=>by omega) (fun _ _ _ _ h=>absurd rfl h),qp _ _,fun j hj=>by
   show 0<=(tab caps.length _).getD j 0/\(tab caps.length _).getD j 0<=_
   rw [qt _ hj];omega,.inl rfl⟩
 | k+1=>qei hn hfit (qc1 k)
end
section
variable {caps : List Int} {flows : Fl} (hn : Nw caps flows) (hfit : Fit caps flows)
include hn hfit
end
section
variable {caps : List Int} {flows : Fl} (hn : Nw caps flows) {A R : List (List Int)} {P : List Int} {g : Int} {ws h : List Int}
include hn
theorem qej {i:Nat} (hi:i < flows.length) (f:Nat->Nat->Int) (hf:∀ i t:Nat,i < flows.length->t < (flows.getD i []).length->v32 (i:Int) (t:Int)=some (f i t)) (out:List (List Int)) :
  qQ FU (i:Int) flows (flows.length:Int) (i:Int) ((flows.getD i []).length:Int) 0 caps flows R P g ws h (List.replicate (flows.getD i []).length 0) out=some (tab (flows.getD i []).length (f i)):=by
 have h4:=hn.sub i hi
 have e:List.replicate (flows.getD i []).length (0:Int)=tab (flows.getD i []).length fun t=>if t < 0 then f i t else 0:=(qB _).trans (qi fun t _=>(if_neg (Nat.not_lt_zero t)).symm)
 rw [e]
 refine qo (m:=(flows.getD i []).length) (by omega) (fun n j (s:List Int)=>qQ n (i:Int) flows (flows.length:Int) (i:Int) ((flows.getD i []).length:Int) j caps flows R P g ws h s out)
  (fun j=>tab (flows.getD i []).length fun t=>if t < j then f i t else 0) (tab (flows.getD i []).length (f i)) (fun n j hj=>?_) fun n=>?_
 ·show qQ (n+1) _ _ _ _ _ _ _ _ _ _ _ _ _ _ _=qQ n _ _ _ _ _ _ _ _ _ _ _ _ _ _ _
  have hv:=hf i j hi hj
  rw [Kx];unfold jY ck;rw [qd (show (j:Int) < ((flows.getD i []).length:Int) by omega),up1 (by omega)]
  simp only [hv,qf,qe,cond_true,Int.toNat_natCast,qp]
  rw [qd (show (0:Int)<=(j:Int) by omega),qd (show (j:Int) < ((flows.getD i []).length:Int) by omega),qd hj,ji]
  congr 1
  exact qi fun t ht=>by
   by_cases c:t=j
   ·rw [if_pos c,if_pos (by omega),c]
   ·rw [if_neg c]
    by_cases c2:t < j
    ·rw [if_pos c2,if_pos (by omega)]
    ·rw [if_neg c2,if_neg (by omega)]
 ·show qQ (n+1) _ _ _ _ _ _ _ _ _ _ _ _ _ _ _=_
  rw [Kx];unfold jY ck;rw [qg (show ¬ ((flows.getD i []).length:Int) < ((flows.getD i []).length:Int) by omega)]
  exact congrArg some (qi fun t ht=>if_pos ht)
theorem v31_eq (f:Nat->Nat->Int) (hf:∀ i t:Nat,i < flows.length->t < (flows.getD i []).length->v32 (i:Int) (t:Int)=some (f i t)):v31 caps flows R P g ws h=some (rtT flows f):=by
 have hfl:=hn.f1
 have h0:jo FU flows (flows.length:Int) 0 caps flows R P g ws h []=some (rtT flows f):=by
  refine qo (m:=flows.length) (by omega) (fun n j (s:List (List Int))=>jo n flows (flows.length:Int) j caps flows R P g ws h s) (fun j=>(List.range j).map fun i=>tab (flows.getD i []).length (f i)) (rtT flows f) (fun n i hi=>?_) fun n=>?_
  ·show jo (n+1) _ _ _ _ _ _ _ _ _ _ _=jo n _ _ _ _ _ _ _ _ _ _ _
   have h4:=hn.sub i hi
   rw [SB];unfold gp ck;(repeat rewrite [obE]);rw [qd (show (i:Int) < (flows.length:Int) by omega),qd (show (0:Int)<=(i:Int) by omega),qd (show (i:Int) < (flows.length:Int) by omega),up1 (by omega)]
   simp only [Int.toNat_natCast,List.length_replicate]
   rw [qd (Int.le_refl _),qd (show ((flows.getD i []).length:Int)<=((2147483648:Nat):Int) by omega),qej hn hi f hf]
   simp only [qf,qe,cond_true,List.length_map,List.length_range,List.length_cons,List.length_nil]
   rw [qd (show i+(0+1)<=2147483648 by omega),List.range_succ,List.map_append]
   rfl
  ·show jo (n+1) _ _ _ _ _ _ _ _ _ _ _=_
   rw [SB];unfold gp ck;(repeat rewrite [obE]);rw [qg (show ¬ (flows.length:Int) < (flows.length:Int) by omega)]
   rfl
 unfold v31 tv31;(repeat rewrite [obE])
 rw [h0];rfl
theorem qek {i:Nat} (hi:i < flows.length) (f:Nat->Nat->Int) (hf:∀ i t:Nat,i < flows.length->t < (flows.getD i []).length->v55 (i:Int) (t:Int) caps flows A R P g ws h=some (f i t)) (out:List (List Int)) :
  qR FU (i:Int) flows (flows.length:Int) (i:Int) ((flows.getD i []).length:Int) 0 caps flows A R P g ws h (List.replicate (flows.getD i []).length 0) out=some (tab (flows.getD i []).length (f i)):=by
 have h4:=hn.sub i hi
 have e:List.replicate (flows.getD i []).length (0:Int)=tab (flows.getD i []).length fun t=>if t < 0 then f i t else 0:=(qB _).trans (qi fun t _=>(if_neg (Nat.not_lt_zero t)).symm)
 rw [e]
 refine qo (m:=(flows.getD i []).length) (by omega) (fun n j (s:List Int)=>qR n (i:Int) flows (flows.length:Int) (i:Int) ((flows.getD i []).length:Int) j caps flows A R P g ws h s out)
  (fun j=>tab (flows.getD i []).length fun t=>if t < j then f i t else 0) (tab (flows.getD i []).length (f i)) (fun n j hj=>?_) fun n=>?_
 ·show qR (n+1) _ _ _ _ _ _ _ _ _ _ _ _ _ _ _ _=qR n _ _ _ _ _ _ _ _ _ _ _ _ _ _ _ _
  have hv:=hf i j hi hj
  rw [Ky];unfold jZ ck;(repeat rewrite [obE]);rw [qd (show (j:Int) < ((flows.getD i []).length:Int) by omega),up1 (by omega)]
  simp only [hv,qf,qe,cond_true,Int.toNat_natCast,qp]
  rw [qd (show (0:Int)<=(j:Int) by omega),qd (show (j:Int) < ((flows.getD i []).length:Int) by omega),qd hj,ji]
  congr 1
  exact qi fun t ht=>by
   by_cases c:t=j
   ·rw [if_pos c,if_pos (by omega),c]
   ·rw [if_neg c]
    by_cases c2:t < j
    ·rw [if_pos c2,if_pos (by omega)]
    ·rw [if_neg c2,if_neg (by omega)]
 ·show qR (n+1) _ _ _ _ _ _ _ _ _ _ _ _ _ _ _ _=_
  rw [Ky];unfold jZ ck;(repeat rewrite [obE]);rw [qg (show ¬ ((flows.getD i []).length:Int) < ((flows.getD i []).length:Int) by omega)]
  exact congrArg some (qi fun t ht=>if_pos ht)
theorem qe4 (f:Nat->Nat->Int) (hf:∀ i t:Nat,i < flows.length->t < (flows.getD i []).length->v55 (i:Int) (t:Int) caps flows A R P g ws h=some (f i t)):JA caps flows A R P g ws h=some (rtT flows f):=by
 have hfl:=hn.f1
 have h0:jp FU flows (flows.length:Int) 0 caps flows A R P g ws h []=some (rtT flows f):=by
  refine qo (m:=flows.length) (by omega) (fun n j (s:List (List Int))=>jp n flows (flows.length:Int) j caps flows A R P g ws h s) (fun j=>(List.range j).map fun i=>tab (flows.getD i []).length (f i)) (rtT flows f) (fun n i hi=>?_) fun n=>?_
  ·show jp (n+1) _ _ _ _ _ _ _ _ _ _ _ _=jp n _ _ _ _ _ _ _ _ _ _ _ _
   have h4:=hn.sub i hi
   rw [SC];unfold gq ck;(repeat rewrite [obE]);rw [qd (show (i:Int) < (flows.length:Int) by omega),qd (show (0:Int)<=(i:Int) by omega),qd (show (i:Int) < (flows.length:Int) by omega),up1 (by omega)]
   simp only [Int.toNat_natCast,List.length_replicate]
   rw [qd (Int.le_refl _),qd (show ((flows.getD i []).length:Int)<=((2147483648:Nat):Int) by omega),qek hn hi f hf]
   simp only [qf,qe,cond_true,List.length_map,List.length_range,List.length_cons,List.length_nil]
   rw [qd (show i+(0+1)<=2147483648 by omega),List.range_succ,List.map_append]
   rfl
  ·show jp (n+1) _ _ _ _ _ _ _ _ _ _ _ _=_
   rw [SC];unfold gq ck;(repeat rewrite [obE]);rw [qg (show ¬ (flows.length:Int) < (flows.length:Int) by omega)]
   rfl
 unfold JA qan;(repeat rewrite [obE])
 rw [h0];rfl
theorem qel {now:List (List Int)} {i:Nat} (hi:i < flows.length) (f:Nat->Nat->Int) (hf:∀ i t:Nat,i < flows.length->t < (flows.getD i []).length->v57 (i:Int) (t:Int) caps flows A R P g ws h now=some (f i t)) (out:List (List Int)) :
  qS FU (i:Int) flows (flows.length:Int) (i:Int) ((flows.getD i []).length:Int) 0 caps flows A R P g ws h now (List.replicate (flows.getD i []).length 0) out=some (tab (flows.getD i []).length (f i)):=by
 have h4:=hn.sub i hi
 have e:List.replicate (flows.getD i []).length (0:Int)=tab (flows.getD i []).length fun t=>if t < 0 then f i t else 0:=(qB _).trans (qi fun t _=>(if_neg (Nat.not_lt_zero t)).symm)
 rw [e]
 refine qo (m:=(flows.getD i []).length) (by omega) (fun n j (s:List Int)=>qS n (i:Int) flows (flows.length:Int) (i:Int) ((flows.getD i []).length:Int) j caps flows A R P g ws h now s out)
  (fun j=>tab (flows.getD i []).length fun t=>if t < j then f i t else 0) (tab (flows.getD i []).length (f i)) (fun n j hj=>?_) fun n=>?_
 ·show qS (n+1) _ _ _ _ _ _ _ _ _ _ _ _ _ _ _ _ _=qS n _ _ _ _ _ _ _ _ _ _ _ _ _ _ _ _ _
  have hv:=hf i j hi hj
  rw [Kz];unfold j4 ck;(repeat rewrite [obE]);rw [qd (show (j:Int) < ((flows.getD i []).length:Int) by omega),up1 (by omega)]
  simp only [hv,qf,qe,cond_true,Int.toNat_natCast,qp]
  rw [qd (show (0:Int)<=(j:Int) by omega),qd (show (j:Int) < ((flows.getD i []).length:Int) by omega),qd hj,ji]
  congr 1
  exact qi fun t ht=>by
   by_cases c:t=j
   ·rw [if_pos c,if_pos (by omega),c]
   ·rw [if_neg c]
    by_cases c2:t < j
    ·rw [if_pos c2,if_pos (by omega)]
    ·rw [if_neg c2,if_neg (by omega)]
 ·show qS (n+1) _ _ _ _ _ _ _ _ _ _ _ _ _ _ _ _ _=_
  rw [Kz];unfold j4 ck;(repeat rewrite [obE]);rw [qg (show ¬ ((flows.getD i []).length:Int) < ((flows.getD i []).length:Int) by omega)]
  exact congrArg some (qi fun t ht=>if_pos ht)
theorem qe5 {now:List (List Int)} (f:Nat->Nat->Int) (hf:∀ i t:Nat,i < flows.length->t < (flows.getD i []).length->v57 (i:Int) (t:Int) caps flows A R P g ws h now=some (f i t)):JB caps flows A R P g ws h now=some (rtT flows f):=by
 have hfl:=hn.f1
 have h0:jq FU flows (flows.length:Int) 0 caps flows A R P g ws h now []=some (rtT flows f):=by
  refine qo (m:=flows.length) (by omega) (fun n j (s:List (List Int))=>jq n flows (flows.length:Int) j caps flows A R P g ws h now s) (fun j=>(List.range j).map fun i=>tab (flows.getD i []).length (f i)) (rtT flows f) (fun n i hi=>?_) fun n=>?_
  ·show jq (n+1) _ _ _ _ _ _ _ _ _ _ _ _ _=jq n _ _ _ _ _ _ _ _ _ _ _ _ _
   have h4:=hn.sub i hi
   rw [SD];unfold gt ck;(repeat rewrite [obE]);rw [qd (show (i:Int) < (flows.length:Int) by omega),qd (show (0:Int)<=(i:Int) by omega),qd (show (i:Int) < (flows.length:Int) by omega),up1 (by omega)]
   simp only [Int.toNat_natCast,List.length_replicate]
   rw [qd (Int.le_refl _),qd (show ((flows.getD i []).length:Int)<=((2147483648:Nat):Int) by omega),qel hn hi f hf]
   simp only [qf,qe,cond_true,List.length_map,List.length_range,List.length_cons,List.length_nil]
   rw [qd (show i+(0+1)<=2147483648 by omega),List.range_succ,List.map_append]
   rfl
  ·show jq (n+1) _ _ _ _ _ _ _ _ _ _ _ _ _=_
   rw [SD];unfold gt ck;(repeat rewrite [obE]);rw [qg (show ¬ (flows.length:Int) < (flows.length:Int) by omega)]
   rfl
 unfold JB qao;(repeat rewrite [obE])
 rw [h0];rfl
theorem qem {rates:List (List Int)} {k:Int} {ld:List Int} {i:Nat} (hi:i < flows.length) (f:Nat->Nat->Int) (hf:∀ i t:Nat,i < flows.length->t < (flows.getD i []).length->v81 (i:Int) (t:Int) rates caps flows A R P g ws h k ld=some (f i t)) (out:List (List Int)) :
  qT FU (i:Int) flows (flows.length:Int) (i:Int) ((flows.getD i []).length:Int) 0 caps flows A R P g ws h rates k ld (List.replicate (flows.getD i []).length 0) out=some (tab (flows.getD i []).length (f i)):=by
 have h4:=hn.sub i hi
 have e:List.replicate (flows.getD i []).length (0:Int)=tab (flows.getD i []).length fun t=>if t < 0 then f i t else 0:=(qB _).trans (qi fun t _=>(if_neg (Nat.not_lt_zero t)).symm)
 rw [e]
 refine qo (m:=(flows.getD i []).length) (by omega) (fun n j (s:List Int)=>qT n (i:Int) flows (flows.length:Int) (i:Int) ((flows.getD i []).length:Int) j caps flows A R P g ws h rates k ld s out)
  (fun j=>tab (flows.getD i []).length fun t=>if t < j then f i t else 0) (tab (flows.getD i []).length (f i)) (fun n j hj=>?_) fun n=>?_
 ·show qT (n+1) _ _ _ _ _ _ _ _ _ _ _ _ _ _ _ _ _ _ _=qT n _ _ _ _ _ _ _ _ _ _ _ _ _ _ _ _ _ _ _
  have hv:=hf i j hi hj
  rw [KA];unfold j5 ck;(repeat rewrite [obE]);rw [qd (show (j:Int) < ((flows.getD i []).length:Int) by omega),up1 (by omega)]
  simp only [hv,qf,qe,cond_true,Int.toNat_natCast,qp]
  rw [qd (show (0:Int)<=(j:Int) by omega),qd (show (j:Int) < ((flows.getD i []).length:Int) by omega),qd hj,ji]
  congr 1
  exact qi fun t ht=>by
   by_cases c:t=j
   ·rw [if_pos c,if_pos (by omega),c]
   ·rw [if_neg c]
    by_cases c2:t < j
    ·rw [if_pos c2,if_pos (by omega)]
    ·rw [if_neg c2,if_neg (by omega)]
 ·show qT (n+1) _ _ _ _ _ _ _ _ _ _ _ _ _ _ _ _ _ _ _=_
  rw [KA];unfold j5 ck;(repeat rewrite [obE]);rw [qg (show ¬ ((flows.getD i []).length:Int) < ((flows.getD i []).length:Int) by omega)]
  exact congrArg some (qi fun t ht=>if_pos ht)
theorem qbV {rates:List (List Int)} {k:Int} {ld:List Int} (f:Nat->Nat->Int) (hf:∀ i t:Nat,i < flows.length->t < (flows.getD i []).length->v81 (i:Int) (t:Int) rates caps flows A R P g ws h k ld=some (f i t)):GG caps flows A R P g ws h rates k ld=some (rtT flows f):=by
 have hfl:=hn.f1
 have h0:jr FU flows (flows.length:Int) 0 caps flows A R P g ws h rates k ld []=some (rtT flows f):=by
  refine qo (m:=flows.length) (by omega) (fun n j (s:List (List Int))=>jr n flows (flows.length:Int) j caps flows A R P g ws h rates k ld s) (fun j=>(List.range j).map fun i=>tab (flows.getD i []).length (f i)) (rtT flows f) (fun n i hi=>?_) fun n=>?_
  ·show jr (n+1) _ _ _ _ _ _ _ _ _ _ _ _ _ _ _=jr n _ _ _ _ _ _ _ _ _ _ _ _ _ _ _
   have h4:=hn.sub i hi
   rw [SE];unfold gu ck;(repeat rewrite [obE]);rw [qd (show (i:Int) < (flows.length:Int) by omega),qd (show (0:Int)<=(i:Int) by omega),qd (show (i:Int) < (flows.length:Int) by omega),up1 (by omega)]
   simp only [Int.toNat_natCast,List.length_replicate]
   rw [qd (Int.le_refl _),qd (show ((flows.getD i []).length:Int)<=((2147483648:Nat):Int) by omega),qem hn hi f hf]
   simp only [qf,qe,cond_true,List.length_map,List.length_range,List.length_cons,List.length_nil]
   rw [qd (show i+(0+1)<=2147483648 by omega),List.range_succ,List.map_append]
   rfl
  ·show jr (n+1) _ _ _ _ _ _ _ _ _ _ _ _ _ _ _=_
   rw [SE];unfold gu ck;(repeat rewrite [obE]);rw [qg (show ¬ (flows.length:Int) < (flows.length:Int) by omega)]
   rfl
 unfold GG qap;(repeat rewrite [obE])
 rw [h0];rfl
theorem qen {i:Nat} (hi:i < flows.length) (f:Nat->Nat->Int) (hf:∀ i t:Nat,i < flows.length->t < (flows.getD i []).length->v83 (i:Int) (t:Int)=some (f i t)) (out:List (List Int)) :
  qU FU (i:Int) flows (flows.length:Int) (i:Int) ((flows.getD i []).length:Int) 0 caps flows A R P g ws h (List.replicate (flows.getD i []).length 0) out=some (tab (flows.getD i []).length (f i)):=by
 have h4:=hn.sub i hi
 have e:List.replicate (flows.getD i []).length (0:Int)=tab (flows.getD i []).length fun t=>if t < 0 then f i t else 0:=(qB _).trans (qi fun t _=>(if_neg (Nat.not_lt_zero t)).symm)
 rw [e]
 refine qo (m:=(flows.getD i []).length) (by omega) (fun n j (s:List Int)=>qU n (i:Int) flows (flows.length:Int) (i:Int) ((flows.getD i []).length:Int) j caps flows A R P g ws h s out)
  (fun j=>tab (flows.getD i []).length fun t=>if t < j then f i t else 0) (tab (flows.getD i []).length (f i)) (fun n j hj=>?_) fun n=>?_
 ·show qU (n+1) _ _ _ _ _ _ _ _ _ _ _ _ _ _ _ _=qU n _ _ _ _ _ _ _ _ _ _ _ _ _ _ _ _
  have hv:=hf i j hi hj
  rw [KB];unfold j6 ck;rw [qd (show (j:Int) < ((flows.getD i []).length:Int) by omega),up1 (by omega)]
  simp only [hv,qf,qe,cond_true,Int.toNat_natCast,qp]
  rw [qd (show (0:Int)<=(j:Int) by omega),qd (show (j:Int) < ((flows.getD i []).length:Int) by omega),qd hj,ji]
  congr 1
  exact qi fun t ht=>by
   by_cases c:t=j
   ·rw [if_pos c,if_pos (by omega),c]
   ·rw [if_neg c]
    by_cases c2:t < j
    ·rw [if_pos c2,if_pos (by omega)]
    ·rw [if_neg c2,if_neg (by omega)]
 ·show qU (n+1) _ _ _ _ _ _ _ _ _ _ _ _ _ _ _ _=_
  rw [KB];unfold j6 ck;rw [qg (show ¬ ((flows.getD i []).length:Int) < ((flows.getD i []).length:Int) by omega)]
  exact congrArg some (qi fun t ht=>if_pos ht)
theorem qbW (f:Nat->Nat->Int) (hf:∀ i t:Nat,i < flows.length->t < (flows.getD i []).length->v83 (i:Int) (t:Int)=some (f i t)):GH caps flows A R P g ws h=some (rtT flows f):=by
 have hfl:=hn.f1
 have h0:js FU flows (flows.length:Int) 0 caps flows A R P g ws h []=some (rtT flows f):=by
  refine qo (m:=flows.length) (by omega) (fun n j (s:List (List Int))=>js n flows (flows.length:Int) j caps flows A R P g ws h s) (fun j=>(List.range j).map fun i=>tab (flows.getD i []).length (f i)) (rtT flows f) (fun n i hi=>?_) fun n=>?_
  ·show js (n+1) _ _ _ _ _ _ _ _ _ _ _ _=js n _ _ _ _ _ _ _ _ _ _ _ _
   have h4:=hn.sub i hi
   rw [SF];unfold gv ck;(repeat rewrite [obE]);rw [qd (show (i:Int) < (flows.length:Int) by omega),qd (show (0:Int)<=(i:Int) by omega),qd (show (i:Int) < (flows.length:Int) by omega),up1 (by omega)]
   simp only [Int.toNat_natCast,List.length_replicate]
   rw [qd (Int.le_refl _),qd (show ((flows.getD i []).length:Int)<=((2147483648:Nat):Int) by omega),qen hn hi f hf]
   simp only [qf,qe,cond_true,List.length_map,List.length_range,List.length_cons,List.length_nil]
   rw [qd (show i+(0+1)<=2147483648 by omega),List.range_succ,List.map_append]
   rfl
  ·show js (n+1) _ _ _ _ _ _ _ _ _ _ _ _=_
   rw [SF];unfold gv ck;(repeat rewrite [obE]);rw [qg (show ¬ (flows.length:Int) < (flows.length:Int) by omega)]
   rfl
 unfold GH qaq;(repeat rewrite [obE])
 rw [h0];rfl
theorem qb6 {m:Int} (hm:0<=m) {rates:List (List Int)} {cq:List Int} (hr:Rg cq flows m rates) {i j:Nat} (hi:i < flows.length) (hj:j<=(flows.getD i []).length) (k:Nat):0<=qj j (fun t=>pk (pth flows i t) (rt rates i t) k)/\qj j (fun t=>pk (pth flows i t) (rt rates i t) k)<=4*m:=
 qw (m:=4) (by have:=(hn.sub i hi).2;omega) (fun t ht=>by
  have:=hr.rate i t
  rcases qbv hn hi (show t < (flows.getD i []).length by omega) k with h | ⟨h,_⟩<;>rw [h]<;>omega) hm
theorem all_bd2 {m:Int} (hm:0<=m) {rates:List (List Int)} {cq:List Int} (hr:Rg cq flows m rates) {i:Nat} (hi:i<=flows.length) (k:Nat):0<=qj i (fun q=>qj (flows.getD q []).length fun t=>pk (pth flows q t) (rt rates q t) k)/\qj i (fun q=>qj (flows.getD q []).length fun t=>pk (pth flows q t) (rt rates q t) k)<=8*(4*m):=
 qw (m:=8) (by have:=hn.f1.2;omega) (fun q hq=>qb6 hn hm hr (by omega) (Nat.le_refl _) k) (by omega)
theorem l60_32 {rates:List (List Int)} {m:Int} (hm:0<=m/\m<=65000000000000) {cq:List Int} (hr:Rg cq flows m rates) {i t:Nat} (hi:i < flows.length) (ht:t < (flows.getD i []).length) (f:Nat->Int) (hf:∀ k,0<=f k/\f k<=3000000000000000) :
  qY FU rates (i:Int) (t:Int) flows (flows.length:Int) (i:Int) (flows.getD i []) ((flows.getD i []).length:Int) (t:Int) (pth flows i t) ((pth flows i t).length:Int) 0 caps flows A R P g ws h (tab caps.length f)=some (tab caps.length fun k=>f k+pk (pth flows i t) (rt rates i t) k):=by
 have hl:=hn.hop i t hi ht
 have hrl:=hr.rli i hi
 have hrt:=hr.rate i t
 have hrr:=hr.rl
 have:=qo (m:=(pth flows i t).length) (by omega) (fun n j (s:List Int)=>qY n rates (i:Int) (t:Int) flows (flows.length:Int) (i:Int) (flows.getD i []) ((flows.getD i []).length:Int) (t:Int) (pth flows i t) ((pth flows i t).length:Int) j caps flows A R P g ws h s)
  (fun j=>tab caps.length fun k=>f k+qj j fun t'=>cond ((pth flows i t).getD t' 0==(k:Int)) (rt rates i t) 0) (tab caps.length fun k=>f k+pk (pth flows i t) (rt rates i t) k) (fun n j hj=>?_) fun n=>?_
 ·simp only [qj,Int.add_zero] at this
  exact this
 ·show qY (n+1) _ _ _ _ _ _ _ _ _ _ _ _ _ _ _ _ _ _ _ _ _=qY n _ _ _ _ _ _ _ _ _ _ _ _ _ _ _ _ _ _ _ _ _
  have hk:=hn.link i t j hi ht hj
  obtain ⟨p,hp⟩:∃ p:Nat,(pth flows i t).getD j 0=(p:Int):=⟨Int.toNat ((pth flows i t).getD j 0),by omega⟩
  have hpc:p < caps.length:=by omega
  rw [KI];unfold Gk ck;rw [qd (show (j:Int) < ((pth flows i t).length:Int) by omega),qd (show (0:Int)<=(j:Int) by omega),qd (show (j:Int) < ((pth flows i t).length:Int) by omega),up1 (by omega)]
  simp only [Int.toNat_natCast,hp,qp]
  rw [qd (show (0:Int)<=(p:Int) by omega),qd (show (p:Int) < (caps.length:Int) by omega),qd hpc,qd (show (0:Int)<=(i:Int) by omega),qd (show (i:Int) < (rates.length:Int) by omega),qd (show (0:Int)<=(t:Int) by omega),qd (show (t:Int) < ((rates.getD i []).length:Int) by omega),qt _ hpc,ji]
  congr 1
  apply qi
  intro k hkc
  have hb:=qw (n:=j) (m:=6) (f:=fun t'=>cond ((pth flows i t).getD t' 0==(p:Int)) (rt rates i t) 0) (c:=65000000000000) (by omega) (fun t' _=>by
   cases ((pth flows i t).getD t' 0==(p:Int)) with
   | true=>exact ⟨hrt.1,by show rt rates i t<=_;omega⟩
   | false=>exact ⟨Int.le_refl _,by show (0:Int)<=_;omega⟩) (by omega)
  have hfp:=hf p
  rw [qb4,hp]
  by_cases hkp:k=p
  ·subst hkp
   have e:(rates.getD i []).getD t 0=rt rates i t:=rfl
   rw [if_pos rfl,e,qh (by omega) (by omega),beq_self_eq_true,cond_true]
   omega
  ·rw [if_neg hkp,show ((p:Int)==(k:Int))=false from beq_false_of_ne (by omega),cond_false,Int.add_zero]
 ·show qY (n+1) _ _ _ _ _ _ _ _ _ _ _ _ _ _ _ _ _ _ _ _ _=_
  rw [KI];unfold Gk ck;rw [qg (show ¬ ((pth flows i t).length:Int) < ((pth flows i t).length:Int) by omega)]
  rfl
theorem l60_16 {rates:List (List Int)} {m:Int} (hm:0<=m/\m<=65000000000000) {cq:List Int} (hr:Rg cq flows m rates) {i:Nat} (hi:i < flows.length) :
  qX FU rates (i:Int) flows (flows.length:Int) (i:Int) (flows.getD i []) ((flows.getD i []).length:Int) 0 caps flows A R P g ws h (Ld caps flows rates i 0)=some (Ld caps flows rates i (flows.getD i []).length):=by
 have h4:=hn.sub i hi
 refine qo (m:=(flows.getD i []).length) (by omega) (fun n j (s:List Int)=>qX n rates (i:Int) flows (flows.length:Int) (i:Int) (flows.getD i []) ((flows.getD i []).length:Int) j caps flows A R P g ws h s)
  (fun j=>Ld caps flows rates i j) (Ld caps flows rates i (flows.getD i []).length) (fun n j hj=>?_) fun n=>?_
 ·show qX (n+1) _ _ _ _ _ _ _ _ _ _ _ _ _ _ _ _ _=qX n _ _ _ _ _ _ _ _ _ _ _ _ _ _ _ _ _
  have e:=l60_32 hn (A:=A) (R:=R) (P:=P) (g:=g) (ws:=ws) (h:=h) hm hr hi hj (fun k=>qj i (fun q=>qj (flows.getD q []).length fun t=>pk (pth flows q t) (rt rates q t) k)+qj j fun t=>pk (pth flows i t) (rt rates i t) k) (fun k=>by
   have h1:=qb6 hn hm.1 hr hi (Nat.le_of_lt hj) k
   have h2:=all_bd2 hn hm.1 hr (Nat.le_of_lt hi) k
   omega)
  have e2:(tab caps.length fun k=>qj i (fun q=>qj (flows.getD q []).length fun t=>pk (pth flows q t) (rt rates q t) k)+qj j (fun t=>pk (pth flows i t) (rt rates i t) k)+pk (pth flows i j) (rt rates i j) k)=Ld caps flows rates i (j+1):=qi fun k hk=>by
   simp only [qj];omega
  rw [KH];unfold j8 ck;(repeat rewrite [obE]);rw [qd (show (j:Int) < ((flows.getD i []).length:Int) by omega),qd (show (0:Int)<=(j:Int) by omega),qd (show (j:Int) < ((flows.getD i []).length:Int) by omega),up1 (by omega)]
  simp only [Int.toNat_natCast]
  rw [show Ld caps flows rates i j=tab caps.length _ from rfl,e,e2]
  rfl
 ·show qX (n+1) _ _ _ _ _ _ _ _ _ _ _ _ _ _ _ _ _=_
  rw [KH];unfold j8 ck;(repeat rewrite [obE]);rw [qg (show ¬ ((flows.getD i []).length:Int) < ((flows.getD i []).length:Int) by omega)]
theorem KW {rates:List (List Int)} {m:Int} (hm:0<=m/\m<=65000000000000) {cq:List Int} (hr:Rg cq flows m rates):v60 rates caps flows A R P g ws h=some (ldL caps flows rates):=by
 have hf:=hn.f1
 have hc:=hn.c1
 have e1:List.replicate caps.length (0:Int)=Ld caps flows rates 0 0:=qB _
 have e3:Ld caps flows rates flows.length 0=ldL caps flows rates:=qi fun k _=>Int.add_zero _
 have h0:jw FU rates flows (flows.length:Int) 0 caps flows A R P g ws h (Ld caps flows rates 0 0)=some (Ld caps flows rates flows.length 0):=by
  refine qo (m:=flows.length) (by omega) (fun n j (s:List Int)=>jw n rates flows (flows.length:Int) j caps flows A R P g ws h s) (fun j=>Ld caps flows rates j 0) (Ld caps flows rates flows.length 0) (fun n i hi=>?_) fun n=>?_
  ·show jw (n+1) _ _ _ _ _ _ _ _ _ _ _ _ _=jw n _ _ _ _ _ _ _ _ _ _ _ _ _
   rw [SO];unfold gz ck;(repeat rewrite [obE]);rw [qd (show (i:Int) < (flows.length:Int) by omega),qd (show (0:Int)<=(i:Int) by omega),qd (show (i:Int) < (flows.length:Int) by omega),up1 (by omega)]
   simp only [Int.toNat_natCast]
   rw [l60_16 hn hm hr hi]
   simp only [cond_true,qf,qe]
   rw [qb1]
  ·show jw (n+1) _ _ _ _ _ _ _ _ _ _ _ _ _=_
   rw [SO];unfold gz ck;(repeat rewrite [obE]);rw [qg (show ¬ (flows.length:Int) < (flows.length:Int) by omega)]
 unfold v60 tv60;(repeat rewrite [obE])
 rw [Int.toNat_natCast,e1,h0,qd (Int.le_refl _),qd (show (caps.length:Int)<=((2147483648:Nat):Int) by omega),e3]
 rfl
theorem qbZ {ld:List Int} (hl:ld.length=caps.length) (hb:∀ k,0<=ld.getD k 0/\ld.getD k 0<=3000000000000000):v61 ld caps flows A R P g ws h=some (tgN caps ld caps.length):=by
 have hc:=hn.c1
 have h0:jx FU ld (-1) ld (ld.length:Int) 0 caps flows A R P g ws h=some (tgN caps ld caps.length):=by
  refine qo (m:=caps.length) (by omega) (fun n j (s:Int)=>jx n ld s ld (ld.length:Int) j caps flows A R P g ws h) (tgN caps ld) (tgN caps ld caps.length) (fun n k hk=>?_) fun n=>?_
  ·show jx (n+1) _ _ _ _ _ _ _ _ _ _ _ _ _=jx n _ (tgF caps ld k (tgN caps ld k)) _ _ _ _ _ _ _ _ _ _ _
   have hs:=Hi caps ld k
   rw [SP];unfold GY ck;rw [qd (show (k:Int) < (ld.length:Int) by omega),qd (show (0:Int)<=(k:Int) by omega),qd (show (k:Int) < (ld.length:Int) by omega),up1 (by omega)]
   simp only [Int.toNat_natCast]
   unfold tgF
   by_cases c:ld.getD k 0 > 0
   ·rw [qd c,qd c]
    rcases hs with ⟨h1,_⟩ | ⟨b,h1,h2,_,_⟩
    ·rw [h1,qd (show (-1:Int) < 0 by omega),qd (show (-1:Int) < 0 by omega)]
    ·have hb1:=hb k
     have hb2:=hb b
     have hc1:=hn.cap k
     have hc2:=hn.cap b
     have p1:=Int.mul_le_mul hc1.2 hb2.2 hb2.1 (by omega)
     have p2:=Int.mul_le_mul hc2.2 hb1.2 hb1.1 (by omega)
     have p3:=Int.mul_nonneg hc1.1 hb2.1
     have p4:=Int.mul_nonneg hc2.1 hb1.1
     rw [h2,qg (show ¬ (b:Int) < 0 by omega),qg (show ¬ (b:Int) < 0 by omega),qd (show (k:Int) < (caps.length:Int) by omega),qd (show (0:Int)<=(b:Int) by omega),qd (show (b:Int) < (ld.length:Int) by omega),qd (show (b:Int) < (caps.length:Int) by omega),Int.toNat_natCast]
     have w1:wI (caps.getD k 0*ld.getD b 0)=caps.getD k 0*ld.getD b 0:=qh (by omega) (by omega)
     have w2:wI (caps.getD b 0*ld.getD k 0)=caps.getD b 0*ld.getD k 0:=qh (by omega) (by omega)
     simp only [w1,w2]
     cases decide (caps.getD k 0*ld.getD b 0 < caps.getD b 0*ld.getD k 0)<;>rfl
   ·rw [qg c,qg c]
  ·show jx (n+1) _ _ _ _ _ _ _ _ _ _ _ _ _=_
   rw [SP];unfold GY ck;rw [qg (show ¬ (caps.length:Int) < (ld.length:Int) by omega)]
 unfold v61 tv61;(repeat rewrite [obE])
 rw [h0];rfl
end
theorem qeg {l:List Int} (hl:l.length<=20) (hb:∀ k,0<=l.getD k 0/\l.getD k 0<=1000000000):v82 l=some (qE l):=by
 have h0:jF FU 0 l (l.length:Int) 0=some (qE l):=by
  refine qo (m:=l.length) (by omega) (fun n j (s:Int)=>jF n s l (l.length:Int) j) (fun j=>qj j fun t=>l.getD t 0) (qE l) (fun n j hj=>?_) fun n=>?_
  ·show jF (n+1) _ _ _ _=jF n _ _ _ _
   have hb1:=qw (n:=j+1) (m:=20) (f:=fun t=>l.getD t 0) (c:=1000000000) (by omega) (fun t _=>hb t) (by omega)
   have hs:qj (j+1) (fun t=>l.getD t 0)=qj j (fun t=>l.getD t 0)+l.getD j 0:=rfl
   rw [Hc];unfold gN ck;rw [qd (show (j:Int) < (l.length:Int) by omega),qd (show (0:Int)<=(j:Int) by omega),qd (show (j:Int) < (l.length:Int) by omega),up1 (by omega),Int.toNat_natCast,<- hs,qh (by omega) (by omega)]
  ·show jF (n+1) _ _ _ _=_
   rw [Hc];unfold gN ck;rw [qg (show ¬ (l.length:Int) < (l.length:Int) by omega)]
   rfl
 unfold v82 tv82;(repeat rewrite [obE])
 rw [h0];rfl
theorem v59_eq {l:List Int} (h0:1<=l.length) (h1:l.length<=20):v59 l=some (Gs l):=by
 cases l with
 | nil=>simp at h0
 | cons a l=>
  have hll:l.length<=20:=by simp at h1;omega
  have key:∀ (k n i:Nat) (s:Int),i+k=l.length->k < n->GI n (a::l) s ((i+1:Nat):Int)=some ((l.drop i).foldl max s):=by
   intro k
   induction k with
   | zero=>
    intro n i s h1 h2
    cases n with
    | zero=>omega
    | succ n=>
     rw [SN];unfold GX;rw [qg (show ¬ ((i+1:Nat):Int) < ((a::l).length:Int) by simp only [List.length_cons];omega),List.drop_eq_nil_of_le (by omega)]
     rfl
   | succ k ih=>
    intro n i s h1 h2
    cases n with
    | zero=>omega
    | succ n=>
     rw [SN];unfold GX;rw [qd (show ((i+1:Nat):Int) < ((a::l).length:Int) by simp only [List.length_cons];omega),qd (show (0:Int)<=((i+1:Nat):Int) by omega),up1 (by omega)]
     simp only [Int.toNat_natCast]
     rw [ih n (i+1) _ (by omega) (by omega),Ko (i:=i) (by omega) 0]
     rfl
  have h:=key l.length FU 0 a (by omega) (by unfold FU;omega)
  unfold v59 tv59;(repeat rewrite [obE])
  rw [show (a::l).getD (Int.toNat 0) 0=a from rfl,show (1:Int)=((0+1:Nat):Int) from rfl,h,qg (show ¬ ((a::l).length:Int) < ((0+1:Nat):Int) by simp only [List.length_cons];omega),qd (show (0:Int) < ((a::l).length:Int) by simp only [List.length_cons];omega)]
  rfl
theorem qbe {m:Nat} (hm:m<=9223372036854775807) {σ:Type} (F:Nat->Int->σ->Option (Bool ⊕ σ)) (g:Nat->σ) (z:Nat->Bool)
  (step:∀ n i,i < m->F (n+1) (i:Int) (g i)=cond (z i) (some (.inl false)) (F n ((i+1:Nat):Int) (g (i+1)))) (fin:∀ n,F (n+1) (m:Int) (g m)=some (.inr (g m))) :
  F FU 0 (g 0)=some (cond ((List.range m).all fun i=>!z i) (.inr (g m)) (.inl false)):=by
 have key:∀ k i n,i+k=m->k < n->F n (i:Int) (g i)=some (cond ((List.range m).all fun j=>decide (j < i)||!z j) (.inr (g m)) (.inl false)):=by
  intro k
  induction k with
  | zero=>
   intro i n h1 h2
   cases n with
   | zero=>omega
   | succ n=>
    have e:((List.range m).all fun j=>decide (j < i)||!z j)=true:=List.all_eq_true.2 fun j hj=>by
     have:=List.mem_range.1 hj
     rw [decide_eq_true (show j < i by omega)];rfl
    rw [e,show i=m by omega,fin];rfl
  | succ k ih=>
   intro i n h1 h2
   cases n with
   | zero=>omega
   | succ n=>
    rw [step n i (by omega)]
    cases hz:z i with
    | true=>
     have e:((List.range m).all fun j=>decide (j < i)||!z j)=false:=List.all_eq_false.2 ⟨i,List.mem_range.2 (by omega),by rw [hz,decide_eq_false (Nat.lt_irrefl i)];decide⟩
     rw [e];rfl
    | false=>
     rw [cond_false,ih (i+1) n (by omega) (by omega)]
     have e:(fun j=>decide (j < i+1)||!z j)=fun j=>decide (j < i)||!z j:=by
      funext j
      by_cases c:j=i
      ·rw [c,hz,decide_eq_true (show i < i+1 by omega)];simp
      ·by_cases c2:j < i
       ·rw [decide_eq_true c2,decide_eq_true (show j < i+1 by omega)]
       ·rw [decide_eq_false c2,decide_eq_false (show ¬ j < i+1 by omega)]
     rw [e]
 have h:=key m 0 FU (by omega) (by unfold FU;omega)
 have e:(fun j=>decide (j < 0)||!z j)=fun j=>!z j:=by
  funext j
  rw [decide_eq_false (Nat.not_lt_zero j)];rfl
 rw [e] at h
 exact h
theorem Sw {x:Int} (hx:0<=x):0<=qs x/\qs x<=1000000000000:=by
 by_cases c:x=0
 ·subst c
  unfold qs
  rw [Int.tdiv_zero];omega
 ·have:=qbz (x:=x) (by omega)
  omega
theorem qbA {x l:Nat->Int} {m:Nat} (hx:∀ i,i < m->0<=x i) (hl:∀ i,i < m->1<=l i/\l i<=6291456):∀ j,j<=m->(0<=(nmN x l j).1/\(nmN x l j).1<=1000000000000)/\(1<=(nmN x l j).2/\(nmN x l j).2<=6291456)
 | 0,_=>⟨⟨Int.le_refl _,by show (0:Int)<=_;omega⟩,⟨Int.le_refl _,by show (1:Int)<=_;omega⟩⟩
 | j+1,hj=>by
  have ih:=qbA hx hl j (by omega)
  have h1:=Sw (hx j (by omega))
  have h2:=hl j (by omega)
  show (0<=(nmF (x j) (l j) (nmN x l j)).1/\(nmF (x j) (l j) (nmN x l j)).1<=_)/\(1<=(nmF (x j) (l j) (nmN x l j)).2/\(nmF (x j) (l j) (nmN x l j)).2<=_)
  unfold nmF
  cases decide ((nmN x l j).1*l j < qs (x j)*(nmN x l j).2) with
  | true=>exact ⟨h1,h2⟩
  | false=>exact ih
theorem DL {caps:List Int} {flows:Fl} (hn:Nw caps flows) {m:Int} {rates:List (List Int)} (hr:Rg caps flows m rates) (hz:Nz flows rates) {i:Nat} (hi:i < flows.length):0<=qm caps flows rates i/\qm caps flows rates i<=4000000000:=by
 have hg:=Jp hn hr hz
 have h3:=qw (n:=((scR caps flows rates).getD i []).length) (m:=4) (f:=fun t=>((scR caps flows rates).getD i []).getD t 0) (c:=1000000000) (by rw [hg.rli i hi];exact (hn.sub i hi).2) (fun t ht=>hg.rate i t) (by omega)
 have h4:qm caps flows rates i=qj ((scR caps flows rates).getD i []).length fun t=>((scR caps flows rates).getD i []).getD t 0:=rfl
 omega
theorem qcI {caps:List Int} {flows:Fl} (hn:Nw caps flows) {rates:List (List Int)} {prices:List Int} (h1:rates.length=flows.length) (h2:∀ i,i < flows.length->(rates.getD i []).length=(flows.getD i []).length) (h3:prices.length<=20):Few caps flows rates prices:=by
 have hf:=hn.f1
 have hc:=hn.c1
 refine ⟨by omega,by omega,by omega,h3,fun i=>?_,fun i k=>?_,fun i=>?_⟩
 ·by_cases hi:i < flows.length
  ·have:=hn.sub i hi;omega
  ·rw [out3 (by omega)];simp
 ·by_cases hi:i < flows.length
  ·by_cases hk:k < (flows.getD i []).length
   ·have:=hn.hop i k hi hk
    show (pth flows i k).length<=20
    omega
   ·rw [out2 (f:=flows.getD i []) (by omega)];simp
  ·rw [out3 (by omega)];simp
 ·by_cases hi:i < flows.length
  ·have:=hn.sub i hi
   rw [h2 i hi];omega
  ·rw [out2 (by omega)];simp
section
variable {caps : List Int} {flows : Fl} (hn : Nw caps flows) {A R : List (List Int)} {P : List Int} {g : Int} {ws h : List Int}
include hn
theorem qe6 {w:List Int} (hw:Wt caps.length w) {i:Nat} (hi:i < flows.length):DM (i:Int) w caps flows A R P g ws h=some (chS caps flows w i):=by
 have h4:=hn.sub i hi
 have h0:ju FU w (-1) 0 (flows.getD i []) ((flows.getD i []).length:Int) 0 caps flows A R P g ws h=some (chS caps flows w i):=by
  refine qo (m:=(flows.getD i []).length) (by omega) (fun n j (s:Int×Int)=>ju n w s.1 s.2 (flows.getD i []) ((flows.getD i []).length:Int) j caps flows A R P g ws h)
   (chN caps (flows.getD i []) w) (chS caps flows w i) (fun n j hj=>?_) fun n=>?_
  ·show ju (n+1) _ _ _ _ _ _ _ _ _ _ _ _ _ _=ju n _ (chF caps (flows.getD i []) w j (chN caps (flows.getD i []) w j)).1 (chF caps (flows.getD i []) w j (chN caps (flows.getD i []) w j)).2 _ _ _ _ _ _ _ _ _ _ _
   have hp:=hn.hop i j hi hj
   rw [SH];unfold gx ck;(repeat rewrite [obE]);rw [qd (show (j:Int) < ((flows.getD i []).length:Int) by omega),qd (show (0:Int)<=(j:Int) by omega),qd (show (j:Int) < ((flows.getD i []).length:Int) by omega),up1 (by omega)]
   have e1:=qee (l:=(flows.getD i []).getD j []) (w:=w) (show (pth flows i j).length<=20 by omega) (fun x hx=>by rw [hw.len];exact hn.link i j x hi hj hx) (fun k=>by have:=hw.nn k;omega)
   have e2:=qef (l:=(flows.getD i []).getD j []) (caps:=caps) (show (pth flows i j).length<=20 by omega) (fun x hx=>hn.link i j x hi hj hx) (flows:=flows) (A:=A) (R:=R) (P:=P) (g:=g) (w:=ws) (h:=h)
   simp only [Int.toNat_natCast,e1,e2,qf,qe,cond_true]
   unfold chF
   cases qL caps ((flows.getD i []).getD j []) with
   | false=>rfl
   | true=>
    simp only [cond_true]
    cases decide ((chN caps (flows.getD i []) w j).1 < 0) with
    | true=>rfl
    | false=>cases decide (qr ((flows.getD i []).getD j []) w < (chN caps (flows.getD i []) w j).2)<;>rfl
  ·show ju (n+1) _ _ _ _ _ _ _ _ _ _ _ _ _ _=_
   rw [SH];unfold gx ck;(repeat rewrite [obE]);rw [qg (show ¬ ((flows.getD i []).length:Int) < ((flows.getD i []).length:Int) by omega)]
 unfold DM qar ck;(repeat rewrite [obE])
 rw [qd (show (0:Int)<=(i:Int) by omega),qd (show (i:Int) < (flows.length:Int) by omega),Int.toNat_natCast,h0]
 rfl
theorem l75_0_0 (hw:Wt caps.length ws) (hfit:Fit caps flows) {m:Int} (hm:0<=m/\m<=65000000000000) {rates:List (List Int)} (hr:Rg caps flows m rates) (hz:Nz flows rates) {a b:Int} {c e:List Int} {d:List (List Int)} :
  qM FU 0 1 (scR caps flows rates) ((scR caps flows rates).length:Int) 0 a (scR caps flows rates) b caps flows A R P g ws h c d e=some (cond (j9 caps flows rates) (.inr (nmS caps flows rates ws)) (.inl false)):=by
 have hg:=Jp hn hr hz
 have hf:=hn.f1
 have hx:∀ i,i < flows.length->0<=qm caps flows rates i:=fun i hi=>(DL hn hr hz hi).1
 have hl:∀ i,i < flows.length->1<=qq caps flows ws i/\qq caps flows ws i<=6291456:=fun i hi=>by
  obtain ⟨b,_,_,_,_,_,h⟩:=qbt hn hw hfit hi
  omega
 refine qbe (m:=flows.length) (by omega) (fun n i (s:Int×Int)=>qM n s.1 s.2 (scR caps flows rates) ((scR caps flows rates).length:Int) i a (scR caps flows rates) b caps flows A R P g ws h c d e) (nmN (qm caps flows rates) (qq caps flows ws)) (fun i=>qm caps flows rates i==0) (fun n i hi=>?_) fun n=>?_
 ·show qM (n+1) _ _ _ _ _ _ _ _ _ _ _ _ _ _ _ _ _ _ _=cond _ _ (qM n (nmF (qm caps flows rates i) (qq caps flows ws i) (nmN (qm caps flows rates) (qq caps flows ws) i)).1 (nmF (qm caps flows rates i) (qq caps flows ws i) (nmN (qm caps flows rates) (qq caps flows ws) i)).2 _ _ _ _ _ _ _ _ _ _ _ _ _ _ _ _ _)
  have hrl:=hg.rl
  have hri:=hg.rli i hi
  have h4:=hn.sub i hi
  have e1:v82 ((scR caps flows rates).getD i [])=some (qm caps flows rates i):=qeg (by omega) (fun k=>hg.rate i k)
  have e2:=qbX hn hw hi (A:=A) (R:=R) (P:=P) (g:=g) (h:=h)
  have hnb:=qbA hx hl i (by omega)
  have hxi:=DL hn hr hz hi
  have hli:=hl i hi
  have hni:=Sw hxi.1
  rw [SQ];unfold gC ck;(repeat rewrite [obE]);rw [qd (show (i:Int) < ((scR caps flows rates).length:Int) by omega),qd (show (0:Int)<=(i:Int) by omega),qd (show (i:Int) < ((scR caps flows rates).length:Int) by omega),up1 (by omega)]
  simp only [Int.toNat_natCast,e1,e2,qf,qe,cond_true]
  by_cases c0:qm caps flows rates i=0
  ·rw [show (qm caps flows rates i==0)=true from by rw [qu];exact decide_eq_true c0];rfl
  rw [show (qm caps flows rates i==0)=false from by rw [qu];exact decide_eq_false c0,cond_false,cond_false,qd (show qm caps flows rates i≠0 from c0)]
  have el:(chS caps flows ws i).2=qq caps flows ws i:=rfl
  have w1:wI (1000000000000+qm caps flows rates i)=1000000000000+qm caps flows rates i:=qh (by omega) (by omega)
  have w2:wI (1000000000000+qm caps flows rates i - 1)=1000000000000+qm caps flows rates i - 1:=qh (by omega) (by omega)
  have w3:wI (Int.tdiv (1000000000000+qm caps flows rates i - 1) (qm caps flows rates i))=qs (qm caps flows rates i):=qh (x:=qs (qm caps flows rates i)) (by omega) (by omega)
  have p1:=Int.mul_le_mul hnb.1.2 hli.2 (by omega) (by omega)
  have p2:=Int.mul_nonneg hnb.1.1 (show 0<=qq caps flows ws i by omega)
  have p3:=Int.mul_le_mul hni.2 hnb.2.2 (by omega) (by omega)
  have p4:=Int.mul_nonneg hni.1 (show 0<=(nmN (qm caps flows rates) (qq caps flows ws) i).2 by omega)
  have w4:wI ((nmN (qm caps flows rates) (qq caps flows ws) i).1*qq caps flows ws i)=(nmN (qm caps flows rates) (qq caps flows ws) i).1*qq caps flows ws i:=qh (by omega) (by omega)
  have w5:wI (qs (qm caps flows rates i)*(nmN (qm caps flows rates) (qq caps flows ws) i).2)=qs (qm caps flows rates i)*(nmN (qm caps flows rates) (qq caps flows ws) i).2:=qh (by omega) (by omega)
  simp only [el,w1,w2,w3,w4,w5]
  unfold nmF
  cases decide ((nmN (qm caps flows rates) (qq caps flows ws) i).1*qq caps flows ws i < qs (qm caps flows rates i)*(nmN (qm caps flows rates) (qq caps flows ws) i).2)<;>rfl
 ·show qM (n+1) _ _ _ _ _ _ _ _ _ _ _ _ _ _ _ _ _ _ _=_
  have hrl:=hg.rl
  rw [SQ];unfold gC ck;(repeat rewrite [obE]);rw [qg (show ¬ (flows.length:Int) < ((scR caps flows rates).length:Int) by omega)]
theorem qeo (hw:Wt caps.length ws) {s:Int×Int} (hs1:0<=s.1/\s.1<=1000000000000) (hs2:1<=s.2/\s.2<=6291456) {a b:Int} {c d:List (List Int)} {e:List Int} :
  qZ FU s.1 s.2 (ldL caps flows (q9 flows)) caps (caps.length:Int) 0 a c b caps flows A R P g ws h (List.replicate caps.length 0) d e=some (prL caps flows ws s):=by
 have hc:=hn.c1
 have e0:List.replicate caps.length (0:Int)=tab caps.length fun t=>if t < 0 then prS caps flows ws s t else 0:=(qB _).trans (qi fun t _=>(if_neg (Nat.not_lt_zero t)).symm)
 rw [e0]
 refine qo (m:=caps.length) (by omega) (fun n j (l:List Int)=>qZ n s.1 s.2 (ldL caps flows (q9 flows)) caps (caps.length:Int) j a c b caps flows A R P g ws h l d e)
  (fun j=>tab caps.length fun t=>if t < j then prS caps flows ws s t else 0) (prL caps flows ws s) (fun n j hj=>?_) fun n=>?_
 ·show qZ (n+1) _ _ _ _ _ _ _ _ _ _ _ _ _ _ _ _ _ _ _ _=qZ n _ _ _ _ _ _ _ _ _ _ _ _ _ _ _ _ _ _ _ _
  have hld:(ldL caps flows (q9 flows)).length=caps.length:=qp _ _
  have hlg:(ldL caps flows (q9 flows)).getD j 0=qn flows (q9 flows) j:=qt _ hj
  have hwl:=hw.len
  have hwj:=hw.bd j hj
  have put:∀ x:Int,x=prS caps flows ws s j->(tab caps.length fun t=>if t < j then prS caps flows ws s t else 0).set j x=tab caps.length fun t=>if t < j+1 then prS caps flows ws s t else 0:=fun x hx=>by
   rw [ji]
   exact qi fun t ht=>by
    by_cases c:t=j
    ·rw [if_pos c,if_pos (by omega),c];exact hx
    ·rw [if_neg c]
     by_cases c2:t < j
     ·rw [if_pos c2,if_pos (by omega)]
     ·rw [if_neg c2,if_neg (by omega)]
  rw [KJ];unfold Gm ck;rw [qd (show (j:Int) < (caps.length:Int) by omega),qd (show (0:Int)<=(j:Int) by omega),qd (show (j:Int) < (caps.length:Int) by omega),up1 (by omega)]
  simp only [Int.toNat_natCast,qp,hld,hlg]
  by_cases c1:caps.getD j 0=0
  ·rw [show (caps.getD j 0==0)=true from by rw [qu];exact decide_eq_true c1,cond_true,qd (show (j:Int) < (caps.length:Int) by omega),qd hj,put _ (by unfold prS;rw [c1];rfl)]
  rw [show (caps.getD j 0==0)=false from by rw [qu];exact decide_eq_false c1,cond_false,qd (show (j:Int) < (caps.length:Int) by omega)]
  by_cases c2:qn flows (q9 flows) j > 0
  ·have p1:=Int.mul_le_mul hs1.2 hwj.2 (by omega) (by omega)
   have p2:=Int.mul_nonneg hs1.1 (show 0<=ws.getD j 0 by omega)
   have w1:wI (s.1*ws.getD j 0)=s.1*ws.getD j 0:=qh (by omega) (by omega)
   have w2:wI (s.1*ws.getD j 0+s.2)=s.1*ws.getD j 0+s.2:=qh (by omega) (by omega)
   have w3:wI (s.1*ws.getD j 0+s.2 - 1)=s.1*ws.getD j 0+s.2 - 1:=qh (by omega) (by omega)
   have q0:0<=Int.tdiv (s.1*ws.getD j 0+s.2 - 1) s.2:=Int.tdiv_nonneg (by omega) (by omega)
   have q1:Int.tdiv (s.1*ws.getD j 0+s.2 - 1) s.2<=s.1*ws.getD j 0+s.2 - 1:=by
    rw [Int.tdiv_eq_ediv_of_nonneg (by omega)]
    exact Int.ediv_le_self _ (by omega)
   have w4:wI (Int.tdiv (s.1*ws.getD j 0+s.2 - 1) s.2)=Int.tdiv (s.1*ws.getD j 0+s.2 - 1) s.2:=qh (by omega) (by omega)
   rw [qd c2,qd (show (j:Int) < (ws.length:Int) by omega),qd (show j < ws.length by omega),qd (show s.2≠0 by omega),qd (show (j:Int) < (caps.length:Int) by omega),qd hj,w1,w2,w3,w4,
    put _ (by unfold prS;rw [show (caps.getD j 0==0)=false from by rw [qu];exact decide_eq_false c1,cond_false,qd c2])]
  ·rw [qg c2]
   congr 1
   exact qi fun t ht=>by
    by_cases c:t=j
    ·rw [c,if_neg (Nat.lt_irrefl j),if_pos (by omega)]
     unfold prS
     rw [show (caps.getD j 0==0)=false from by rw [qu];exact decide_eq_false c1,cond_false,qg c2]
    ·by_cases c3:t < j
     ·rw [if_pos c3,if_pos (by omega)]
     ·rw [if_neg c3,if_neg (by omega)]
 ·show qZ (n+1) _ _ _ _ _ _ _ _ _ _ _ _ _ _ _ _ _ _ _ _=_
  rw [KJ];unfold Gm ck;rw [qg (show ¬ (caps.length:Int) < (caps.length:Int) by omega)]
  exact congrArg some (qi fun t ht=>if_pos ht)
theorem v75_eq (hw:Wt caps.length ws) (hfit:Fit caps flows) {m:Int} (hm:0<=m/\m<=65000000000000) {rates:List (List Int)} (hr:Rg caps flows m rates) (hz:Nz flows rates):v75 rates caps flows A R P g ws h=some (qC caps flows rates ws):=by
 have hc:=hn.c1
 have hg:=Jp hn hr hz
 have ht:=KV hn hr hz
 have e60:v60 rates caps flows A R P g ws h=some (ldL caps flows rates):=KW hn hm hr
 have hld:(ldL caps flows rates).length=caps.length:=qp _ _
 have hlb:∀ k,0<=(ldL caps flows rates).getD k 0/\(ldL caps flows rates).getD k 0<=3000000000000000:=fun k=>by
  by_cases hk:k < caps.length
  ·rw [show (ldL caps flows rates).getD k 0=qn flows rates k from qt _ hk]
   have:=qbu hn hm.1 hr k
   omega
  ·rw [out1 (by omega)];omega
 have e61:v61 (ldL caps flows rates) caps flows A R P g ws h=some (tgS caps flows rates:Int):=by rw [qbZ hn hld hlb,ht.1]
 have hcl:∀ i t:Nat,i < flows.length->t < (flows.getD i []).length->v81 (i:Int) (t:Int) rates caps flows A R P g ws h (tgS caps flows rates:Int) (ldL caps flows rates)=some (scS caps flows rates i t):=fun i t hi ht'=>by
  have hrl:=hr.rl
  have hri:=hr.rli i hi
  have hrt:=hr.rate i t
  have hcp:=hn.cap (tgS caps flows rates)
  have hlt:=hlb (tgS caps flows rates)
  have hlg:(ldL caps flows rates).getD (tgS caps flows rates) 0=qn flows rates (tgS caps flows rates):=qt _ ht.2.1
  have hsc:=qbG hn hr hz hi ht'
  unfold v81 tv81 ck;(repeat rewrite [obE])
  rw [qd (show (0:Int)<=(i:Int) by omega),qd (show (i:Int) < (rates.length:Int) by omega),qd (show (0:Int)<=(t:Int) by omega)]
  simp only [Int.toNat_natCast,hld]
  rw [qd (show (t:Int) < ((rates.getD i []).length:Int) by omega),qd (show (0:Int)<=(tgS caps flows rates:Int) by omega),qd (show (tgS caps flows rates:Int) < (caps.length:Int) by omega),qd (show (tgS caps flows rates:Int) < (caps.length:Int) by omega),hlg]
  have w1:wI (1000000*caps.getD (tgS caps flows rates) 0)=1000000*caps.getD (tgS caps flows rates) 0:=qh (by omega) (by omega)
  have hv:v56 (rt rates i t) (1000000*caps.getD (tgS caps flows rates) 0) (qn flows rates (tgS caps flows rates))=some (scS caps flows rates i t):=qbY hrt.1 (by omega) (by omega) (by omega) ht.2.2.1 (by omega) (by
   have e:rt rates i t*(1000000*caps.getD (tgS caps flows rates) 0) / qn flows rates (tgS caps flows rates)=scS caps flows rates i t:=rfl
   omega)
  rw [w1,show (rates.getD i []).getD t 0=rt rates i t from rfl,hv]
  rfl
 have e31:GG caps flows A R P g ws h rates (tgS caps flows rates:Int) (ldL caps flows rates)=some (scR caps flows rates):=qbV hn (scS caps flows rates) hcl
 have e314:GH caps flows A R P g ws h=some (q9 flows):=qbW hn (fun _ _=>1) (fun _ _ _ _=>rfl)
 have hone:v60 (q9 flows) caps flows A R P g ws h=some (ldL caps flows (q9 flows)):=by
  have hq:Rg (tab 8 fun _=>1) flows 1 (q9 flows):=Jo (by omega) (fun _ _ _ _=>by omega) (fun i t hi ht _=>use_iff.2 fun j hj=>by
   have:=hn.link i t j hi ht hj
   rw [qt _ (by omega)];decide)
  exact KW hn (m:=1) (by omega) hq
 have h36:gj 0 0 caps flows A R P g ws h (ldL caps flows rates) rates (tgS caps flows rates:Int) [] (List.replicate caps.length 0) [] []=some (cond (j9 caps flows rates) ((Gr caps flows (scR caps flows rates) (prL caps flows ws (nmS caps flows rates ws))).2==0,scR caps flows rates,(Gr caps flows (scR caps flows rates) (prL caps flows ws (nmS caps flows rates ws))).1,prL caps flows ws (nmS caps flows rates ws)) (false,scR caps flows rates,0,List.replicate caps.length 0)):=by
  unfold gj Ja;(repeat rewrite [obE])
  rw [e31]
  simp only [qf,qe,cond_true]
  unfold GO Jc;(repeat rewrite [obE])
  rw [l75_0_0 hn hw hfit hm hr hz]
  cases hfull:j9 caps flows rates with
  | false=>rfl
  | true=>
   have hb:=nm_ok hn hw hfit hr hz hfull
   have e16:=qeo hn hw hb.1 hb.2.1 (A:=A) (R:=R) (P:=P) (g:=g) (h:=h) (a:=0) (b:=0) (c:=scR caps flows rates) (d:=[]) (e:=[])
   have hfew:Few caps flows (scR caps flows rates) (prL caps flows ws (nmS caps flows rates ws)):=qcI hn hg.rl hg.rli (by unfold prL;rw [qp];omega)
   rw [e314]
   simp only [cond_true,Jm,GQ,qf,qe,cond_false]
   rw [hone]
   simp only [qf,qe,cond_true]
   unfold g9 GE;(repeat rewrite [obE])
   rw [e16]
   simp only [qf,qe,cond_true]
   unfold jJ ga;(repeat rewrite [obE])
   rw [qec hfew]
   rfl
 unfold v75 tv75;(repeat rewrite [obE])
 rw [e60]
 simp only [qf,qe,cond_true]
 rw [e61]
 simp only [qf,qe,cond_true,Int.toNat_natCast]
 rw [h36,qd (Int.le_refl _),qd (show (caps.length:Int)<=((2147483648:Nat):Int) by omega)]
 unfold qC
 cases j9 caps flows rates with
 | true=>rfl
 | false=>rw [qB];rfl
theorem v58_eq (hw:Wt caps.length ws) (hfit:Fit caps flows) {m:Int} (hm:0<=m/\m<=65000000000000) {rates:List (List Int)} (hr:Rg caps flows m rates) (hz:Nz flows rates):v58 rates caps flows A R P g ws h=some (gP (R,P,g) (qC caps flows rates ws)):=by
 unfold v58 tv58;(repeat rewrite [obE])
 rw [v75_eq hn hw hfit hm hr hz]
 have e:((R.length:Int)==0)=decide (R.length=0):=by
  rw [qu]
  apply decide_eq_decide.2
  omega
 simp only [qf,qe,cond_true,e]
 unfold gP
 cases (qC caps flows rates ws).2.2.2 with
 | false=>rfl
 | true=>
  cases decide (R.length=0) with
  | true=>rfl
  | false=>
   simp only [cond_true,cond_false]
   by_cases c:(qC caps flows rates ws).2.2.1 < g
   ·exact (qd c _ _).trans (congrArg some (qd c _ _).symm)
   ·exact (qg c _ _).trans (congrArg some (qg c _ _).symm)
theorem l75_0_1 {w:List Int} (hw:Wt caps.length w) (hfit:Fit caps flows) {m:Int} (hm:0<=m/\m<=65000000000000) {rates:List (List Int)} (hr:Rg caps flows m rates) (hz:Nz flows rates) {a b:Int} {c e:List Int} {d:List (List Int)} :
  qN FU w 0 1 (scR caps flows rates) ((scR caps flows rates).length:Int) 0 a (scR caps flows rates) b caps flows A R P g ws h c d e=some (cond (j9 caps flows rates) (.inr (nmS caps flows rates w)) (.inl false)):=by
 have hg:=Jp hn hr hz
 have hf:=hn.f1
 have hx:∀ i,i < flows.length->0<=qm caps flows rates i:=fun i hi=>(DL hn hr hz hi).1
 have hl:∀ i,i < flows.length->1<=qq caps flows w i/\qq caps flows w i<=6291456:=fun i hi=>by
  obtain ⟨b,_,_,_,_,_,h⟩:=qbt hn hw hfit hi
  omega
 refine qbe (m:=flows.length) (by omega) (fun n i (s:Int×Int)=>qN n w s.1 s.2 (scR caps flows rates) ((scR caps flows rates).length:Int) i a (scR caps flows rates) b caps flows A R P g ws h c d e) (nmN (qm caps flows rates) (qq caps flows w)) (fun i=>qm caps flows rates i==0) (fun n i hi=>?_) fun n=>?_
 ·show qN (n+1) _ _ _ _ _ _ _ _ _ _ _ _ _ _ _ _ _ _ _ _=cond _ _ (qN n _ (nmF (qm caps flows rates i) (qq caps flows w i) (nmN (qm caps flows rates) (qq caps flows w) i)).1 (nmF (qm caps flows rates i) (qq caps flows w i) (nmN (qm caps flows rates) (qq caps flows w) i)).2 _ _ _ _ _ _ _ _ _ _ _ _ _ _ _ _ _)
  have hrl:=hg.rl
  have hri:=hg.rli i hi
  have h4:=hn.sub i hi
  have e1:v82 ((scR caps flows rates).getD i [])=some (qm caps flows rates i):=qeg (by omega) (fun k=>hg.rate i k)
  have e2:=qe6 hn hw hi (A:=A) (R:=R) (P:=P) (g:=g) (ws:=ws) (h:=h)
  have hnb:=qbA hx hl i (by omega)
  have hxi:=DL hn hr hz hi
  have hli:=hl i hi
  have hni:=Sw hxi.1
  rw [SS];unfold gD ck;(repeat rewrite [obE]);rw [qd (show (i:Int) < ((scR caps flows rates).length:Int) by omega),qd (show (0:Int)<=(i:Int) by omega),qd (show (i:Int) < ((scR caps flows rates).length:Int) by omega),up1 (by omega)]
  simp only [Int.toNat_natCast,e1,e2,qf,qe,cond_true]
  by_cases c0:qm caps flows rates i=0
  ·rw [show (qm caps flows rates i==0)=true from by rw [qu];exact decide_eq_true c0];rfl
  rw [show (qm caps flows rates i==0)=false from by rw [qu];exact decide_eq_false c0,cond_false,cond_false,qd (show qm caps flows rates i≠0 from c0)]
  have el:(chS caps flows w i).2=qq caps flows w i:=rfl
  have w1:wI (1000000000000+qm caps flows rates i)=1000000000000+qm caps flows rates i:=qh (by omega) (by omega)
  have w2:wI (1000000000000+qm caps flows rates i - 1)=1000000000000+qm caps flows rates i - 1:=qh (by omega) (by omega)
  have w3:wI (Int.tdiv (1000000000000+qm caps flows rates i - 1) (qm caps flows rates i))=qs (qm caps flows rates i):=qh (x:=qs (qm caps flows rates i)) (by omega) (by omega)
  have p1:=Int.mul_le_mul hnb.1.2 hli.2 (by omega) (by omega)
  have p2:=Int.mul_nonneg hnb.1.1 (show 0<=qq caps flows w i by omega)
  have p3:=Int.mul_le_mul hni.2 hnb.2.2 (by omega) (by omega)
  have p4:=Int.mul_nonneg hni.1 (show 0<=(nmN (qm caps flows rates) (qq caps flows w) i).2 by omega)
  have w4:wI ((nmN (qm caps flows rates) (qq caps flows w) i).1*qq caps flows w i)=(nmN (qm caps flows rates) (qq caps flows w) i).1*qq caps flows w i:=qh (by omega) (by omega)
  have w5:wI (qs (qm caps flows rates i)*(nmN (qm caps flows rates) (qq caps flows w) i).2)=qs (qm caps flows rates i)*(nmN (qm caps flows rates) (qq caps flows w) i).2:=qh (by omega) (by omega)
  simp only [el,w1,w2,w3,w4,w5]
  unfold nmF
  cases decide ((nmN (qm caps flows rates) (qq caps flows w) i).1*qq caps flows w i < qs (qm caps flows rates i)*(nmN (qm caps flows rates) (qq caps flows w) i).2)<;>rfl
 ·show qN (n+1) _ _ _ _ _ _ _ _ _ _ _ _ _ _ _ _ _ _ _ _=_
  have hrl:=hg.rl
  rw [SS];unfold gD ck;(repeat rewrite [obE]);rw [qg (show ¬ (flows.length:Int) < ((scR caps flows rates).length:Int) by omega)]
theorem qep {w:List Int} (hw:Wt caps.length w) {s:Int×Int} (hs1:0<=s.1/\s.1<=1000000000000) (hs2:1<=s.2/\s.2<=6291456) {a b:Int} {c d:List (List Int)} {e:List Int} :
  q6 FU w s.1 s.2 (ldL caps flows (q9 flows)) caps (caps.length:Int) 0 a c b caps flows A R P g ws h (List.replicate caps.length 0) d e=some (prL caps flows w s):=by
 have hc:=hn.c1
 have e0:List.replicate caps.length (0:Int)=tab caps.length fun t=>if t < 0 then prS caps flows w s t else 0:=(qB _).trans (qi fun t _=>(if_neg (Nat.not_lt_zero t)).symm)
 rw [e0]
 refine qo (m:=caps.length) (by omega) (fun n j (l:List Int)=>q6 n w s.1 s.2 (ldL caps flows (q9 flows)) caps (caps.length:Int) j a c b caps flows A R P g ws h l d e)
  (fun j=>tab caps.length fun t=>if t < j then prS caps flows w s t else 0) (prL caps flows w s) (fun n j hj=>?_) fun n=>?_
 ·show q6 (n+1) _ _ _ _ _ _ _ _ _ _ _ _ _ _ _ _ _ _ _ _ _=q6 n _ _ _ _ _ _ _ _ _ _ _ _ _ _ _ _ _ _ _ _ _
  have hld:(ldL caps flows (q9 flows)).length=caps.length:=qp _ _
  have hlg:(ldL caps flows (q9 flows)).getD j 0=qn flows (q9 flows) j:=qt _ hj
  have hwl:=hw.len
  have hwj:=hw.bd j hj
  have put:∀ x:Int,x=prS caps flows w s j->(tab caps.length fun t=>if t < j then prS caps flows w s t else 0).set j x=tab caps.length fun t=>if t < j+1 then prS caps flows w s t else 0:=fun x hx=>by
   rw [ji]
   exact qi fun t ht=>by
    by_cases c:t=j
    ·rw [if_pos c,if_pos (by omega),c];exact hx
    ·rw [if_neg c]
     by_cases c2:t < j
     ·rw [if_pos c2,if_pos (by omega)]
     ·rw [if_neg c2,if_neg (by omega)]
  rw [KK];unfold Gn ck;rw [qd (show (j:Int) < (caps.length:Int) by omega),qd (show (0:Int)<=(j:Int) by omega),qd (show (j:Int) < (caps.length:Int) by omega),up1 (by omega)]
  simp only [Int.toNat_natCast,qp,hld,hlg]
  by_cases c1:caps.getD j 0=0
  ·rw [show (caps.getD j 0==0)=true from by rw [qu];exact decide_eq_true c1,cond_true,qd (show (j:Int) < (caps.length:Int) by omega),qd hj,put _ (by unfold prS;rw [c1];rfl)]
  rw [show (caps.getD j 0==0)=false from by rw [qu];exact decide_eq_false c1,cond_false,qd (show (j:Int) < (caps.length:Int) by omega)]
  by_cases c2:qn flows (q9 flows) j > 0
  ·have p1:=Int.mul_le_mul hs1.2 hwj.2 (by omega) (by omega)
   have p2:=Int.mul_nonneg hs1.1 (show 0<=w.getD j 0 by omega)
   have w1:wI (s.1*w.getD j 0)=s.1*w.getD j 0:=qh (by omega) (by omega)
   have w2:wI (s.1*w.getD j 0+s.2)=s.1*w.getD j 0+s.2:=qh (by omega) (by omega)
   have w3:wI (s.1*w.getD j 0+s.2 - 1)=s.1*w.getD j 0+s.2 - 1:=qh (by omega) (by omega)
   have q0:0<=Int.tdiv (s.1*w.getD j 0+s.2 - 1) s.2:=Int.tdiv_nonneg (by omega) (by omega)
   have q1:Int.tdiv (s.1*w.getD j 0+s.2 - 1) s.2<=s.1*w.getD j 0+s.2 - 1:=by
    rw [Int.tdiv_eq_ediv_of_nonneg (by omega)]
    exact Int.ediv_le_self _ (by omega)
   have w4:wI (Int.tdiv (s.1*w.getD j 0+s.2 - 1) s.2)=Int.tdiv (s.1*w.getD j 0+s.2 - 1) s.2:=qh (by omega) (by omega)
   rw [qd c2,qd (show (j:Int) < (w.length:Int) by omega),qd (show s.2≠0 by omega),qd (show (j:Int) < (caps.length:Int) by omega),qd hj,w1,w2,w3,w4,
    put _ (by unfold prS;rw [show (caps.getD j 0==0)=false from by rw [qu];exact decide_eq_false c1,cond_false,qd c2])]
  ·rw [qg c2]
   congr 1
   exact qi fun t ht=>by
    by_cases c:t=j
    ·rw [c,if_neg (Nat.lt_irrefl j),if_pos (by omega)]
     unfold prS
     rw [show (caps.getD j 0==0)=false from by rw [qu];exact decide_eq_false c1,cond_false,qg c2]
    ·by_cases c3:t < j
     ·rw [if_pos c3,if_pos (by omega)]
     ·rw [if_neg c3,if_neg (by omega)]
 ·show q6 (n+1) _ _ _ _ _ _ _ _ _ _ _ _ _ _ _ _ _ _ _ _ _=_
  rw [KK];unfold Gn ck;rw [qg (show ¬ (caps.length:Int) < (caps.length:Int) by omega)]
  exact congrArg some (qi fun t ht=>if_pos ht)
theorem qfa {w:List Int} (hw:Wt caps.length w) (hfit:Fit caps flows) {m:Int} (hm:0<=m/\m<=65000000000000) {rates:List (List Int)} (hr:Rg caps flows m rates) (hz:Nz flows rates):DO rates w caps flows A R P g ws h=some (qC caps flows rates w):=by
 have hc:=hn.c1
 have hg:=Jp hn hr hz
 have ht:=KV hn hr hz
 have e60:v60 rates caps flows A R P g ws h=some (ldL caps flows rates):=KW hn hm hr
 have hld:(ldL caps flows rates).length=caps.length:=qp _ _
 have hlb:∀ k,0<=(ldL caps flows rates).getD k 0/\(ldL caps flows rates).getD k 0<=3000000000000000:=fun k=>by
  by_cases hk:k < caps.length
  ·rw [show (ldL caps flows rates).getD k 0=qn flows rates k from qt _ hk]
   have:=qbu hn hm.1 hr k
   omega
  ·rw [out1 (by omega)];omega
 have e61:v61 (ldL caps flows rates) caps flows A R P g ws h=some (tgS caps flows rates:Int):=by rw [qbZ hn hld hlb,ht.1]
 have hcl:∀ i t:Nat,i < flows.length->t < (flows.getD i []).length->v81 (i:Int) (t:Int) rates caps flows A R P g ws h (tgS caps flows rates:Int) (ldL caps flows rates)=some (scS caps flows rates i t):=fun i t hi ht'=>by
  have hrl:=hr.rl
  have hri:=hr.rli i hi
  have hrt:=hr.rate i t
  have hcp:=hn.cap (tgS caps flows rates)
  have hlt:=hlb (tgS caps flows rates)
  have hlg:(ldL caps flows rates).getD (tgS caps flows rates) 0=qn flows rates (tgS caps flows rates):=qt _ ht.2.1
  have hsc:=qbG hn hr hz hi ht'
  unfold v81 tv81 ck;(repeat rewrite [obE])
  rw [qd (show (0:Int)<=(i:Int) by omega),qd (show (i:Int) < (rates.length:Int) by omega),qd (show (0:Int)<=(t:Int) by omega)]
  simp only [Int.toNat_natCast,hld]
  rw [qd (show (t:Int) < ((rates.getD i []).length:Int) by omega),qd (show (0:Int)<=(tgS caps flows rates:Int) by omega),qd (show (tgS caps flows rates:Int) < (caps.length:Int) by omega),qd (show (tgS caps flows rates:Int) < (caps.length:Int) by omega),hlg]
  have w1:wI (1000000*caps.getD (tgS caps flows rates) 0)=1000000*caps.getD (tgS caps flows rates) 0:=qh (by omega) (by omega)
  have hv:v56 (rt rates i t) (1000000*caps.getD (tgS caps flows rates) 0) (qn flows rates (tgS caps flows rates))=some (scS caps flows rates i t):=qbY hrt.1 (by omega) (by omega) (by omega) ht.2.2.1 (by omega) (by
   have e:rt rates i t*(1000000*caps.getD (tgS caps flows rates) 0) / qn flows rates (tgS caps flows rates)=scS caps flows rates i t:=rfl
   omega)
  rw [w1,show (rates.getD i []).getD t 0=rt rates i t from rfl,hv]
  rfl
 have e31:GG caps flows A R P g ws h rates (tgS caps flows rates:Int) (ldL caps flows rates)=some (scR caps flows rates):=qbV hn (scS caps flows rates) hcl
 have e314:GH caps flows A R P g ws h=some (q9 flows):=qbW hn (fun _ _=>1) (fun _ _ _ _=>rfl)
 have hone:v60 (q9 flows) caps flows A R P g ws h=some (ldL caps flows (q9 flows)):=by
  have hq:Rg (tab 8 fun _=>1) flows 1 (q9 flows):=Jo (by omega) (fun _ _ _ _=>by omega) (fun i t hi ht _=>use_iff.2 fun j hj=>by
   have:=hn.link i t j hi ht hj
   rw [qt _ (by omega)];decide)
  exact KW hn (m:=1) (by omega) hq
 have h36:gk w 0 0 caps flows A R P g ws h (ldL caps flows rates) rates (tgS caps flows rates:Int) [] (List.replicate caps.length 0) [] []=some (cond (j9 caps flows rates) ((Gr caps flows (scR caps flows rates) (prL caps flows w (nmS caps flows rates w))).2==0,scR caps flows rates,(Gr caps flows (scR caps flows rates) (prL caps flows w (nmS caps flows rates w))).1,prL caps flows w (nmS caps flows rates w)) (false,scR caps flows rates,0,List.replicate caps.length 0)):=by
  unfold gk Jb;(repeat rewrite [obE])
  rw [e31]
  simp only [qf,qe,cond_true]
  unfold GP Jd;(repeat rewrite [obE])
  rw [l75_0_1 hn hw hfit hm hr hz]
  cases hfull:j9 caps flows rates with
  | false=>rfl
  | true=>
   have hb:=nm_ok hn hw hfit hr hz hfull
   have e16:=qep hn hw hb.1 hb.2.1 (A:=A) (R:=R) (P:=P) (g:=g) (ws:=ws) (h:=h) (a:=0) (b:=0) (c:=scR caps flows rates) (d:=[]) (e:=[])
   have hfew:Few caps flows (scR caps flows rates) (prL caps flows w (nmS caps flows rates w)):=qcI hn hg.rl hg.rli (by unfold prL;rw [qp];omega)
   rw [e314]
   simp only [cond_true,Jm,GQ,qf,qe,cond_false]
   rw [hone]
   simp only [qf,qe,cond_true]
   unfold Ga GF;(repeat rewrite [obE])
   rw [e16]
   simp only [qf,qe,cond_true]
   unfold jJ ga;(repeat rewrite [obE])
   rw [qec hfew]
   rfl
 unfold DO qaA;(repeat rewrite [obE])
 rw [e60]
 simp only [qf,qe,cond_true]
 rw [e61]
 simp only [qf,qe,cond_true,Int.toNat_natCast]
 rw [h36,qd (Int.le_refl _),qd (show (caps.length:Int)<=((2147483648:Nat):Int) by omega)]
 unfold qC
 cases j9 caps flows rates with
 | true=>rfl
 | false=>rw [qB];rfl
theorem qe9 {w:List Int} (hw:Wt caps.length w) (hfit:Fit caps flows) {m:Int} (hm:0<=m/\m<=65000000000000) {rates:List (List Int)} (hr:Rg caps flows m rates) (hz:Nz flows rates):JD rates w caps flows A R P g ws h=some (gP (R,P,g) (qC caps flows rates w)):=by
 unfold JD qau;(repeat rewrite [obE])
 rw [qfa hn hw hfit hm hr hz]
 have e:((R.length:Int)==0)=decide (R.length=0):=by
  rw [qu]
  apply decide_eq_decide.2
  omega
 simp only [qf,qe,cond_true,e]
 unfold gP
 cases (qC caps flows rates w).2.2.2 with
 | false=>rfl
 | true=>
  cases decide (R.length=0) with
  | true=>rfl
  | false=>
   simp only [cond_true,cond_false]
   by_cases c:(qC caps flows rates w).2.2.1 < g
   ·exact (qd c _ _).trans (congrArg some (qd c _ _).symm)
   ·exact (qg c _ _).trans (congrArg some (qg c _ _).symm)
end
theorem qbJ (l:List Int):l=tab l.length fun k=>l.getD k 0:=(qdJ l 0).symm
theorem Jy {n j:Nat} (f f':Nat->Int) {x:Int} (hx:x=f j):(tab n fun t=>if t < j then f t else f' t).set j x=tab n fun t=>if t < j+1 then f t else f' t:=by
 rw [ji]
 exact qi fun t ht=>by
  by_cases c:t=j
  ·rw [if_pos c,if_pos (by omega),c];exact hx
  ·rw [if_neg c]
   by_cases c2:t < j
   ·rw [if_pos c2,if_pos (by omega)]
   ·rw [if_neg c2,if_neg (by omega)]
theorem qe3 {n j:Nat} (f f':Nat->Int) (hx:f j=f' j):(tab n fun t=>if t < j then f t else f' t)=tab n fun t=>if t < j+1 then f t else f' t:=
 qi fun t ht=>by
  by_cases c:t=j
  ·rw [c,if_neg (Nat.lt_irrefl j),if_pos (by omega),hx]
  ·by_cases c2:t < j
   ·rw [if_pos c2,if_pos (by omega)]
   ·rw [if_neg c2,if_neg (by omega)]
theorem Jh {n:Nat} (f f':Nat->Int):tab n f'=tab n fun t=>if t < 0 then f t else f' t:=qi fun t _=>(if_neg (Nat.not_lt_zero t)).symm
theorem qea {n j:Nat} (f f':Nat->Int) (hj:j < n):(tab n fun t=>if t < j then f t else f' t).getD j 0=f' j:=by rw [qt _ hj,if_neg (Nat.lt_irrefl j)]
theorem qc0 {m:Nat} (hm:m<=9223372036854775807) {ρ:Type} (F:Nat->Int->Option (ρ ⊕ Unit)) (c:ρ) (z:Nat->Bool)
  (step:∀ n i,i < m->F (n+1) (i:Int)=cond (z i) (some (.inl c)) (F n ((i+1:Nat):Int))) (fin:∀ n,F (n+1) (m:Int)=some (.inr ())) :
  F FU 0=some (cond ((List.range m).all fun i=>!z i) (.inr ()) (.inl c)):=by
 have key:∀ k i n,i+k=m->k < n->(∃ j,i<=j/\j < m/\z j=true/\F n (i:Int)=some (.inl c))\/((∀ j,i<=j->j < m->z j=false)/\F n (i:Int)=some (.inr ())):=by
  intro k
  induction k with
  | zero=>
   intro i n h1 h2
   cases n with
   | zero=>omega
   | succ n=>
    have:i=m:=by omega
    subst this
    exact .inr ⟨fun j h3 h4=>by omega,fin n⟩
  | succ k ih=>
   intro i n h1 h2
   cases n with
   | zero=>omega
   | succ n=>
    rw [step n i (by omega)]
    cases hz:z i with
    | true=>exact .inl ⟨i,Nat.le_refl _,by omega,hz,rfl⟩
    | false=>
     rcases ih (i+1) n (by omega) (by omega) with ⟨j,a,b,d,e⟩ | ⟨a,e⟩
     ·exact .inl ⟨j,by omega,b,d,e⟩
     ·refine .inr ⟨fun j h3 h4=>?_,e⟩
      by_cases h5:j=i
      ·rw [h5];exact hz
      ·exact a j (by omega) h4
 rcases key m 0 FU (by omega) (by unfold FU;omega) with ⟨j,a,b,d,e⟩ | ⟨a,e⟩
 ·have h:((List.range m).all fun i=>!z i)=false:=List.all_eq_false.2 ⟨j,List.mem_range.2 b,by rw [d];decide⟩
  rw [h];exact e
 ·have h:((List.range m).all fun i=>!z i)=true:=List.all_eq_true.2 fun j hj=>by rw [a j (Nat.zero_le _) (List.mem_range.1 hj)];rfl
  rw [h];exact e
section
variable {caps : List Int} {flows : Fl} (hn : Nw caps flows) {A R : List (List Int)} {P : List Int} {g : Int} {ws h : List Int}
include hn
theorem l34_0 (hw:Wt caps.length ws) (hl:h.length=caps.length) (hb:∀ k,k < caps.length->0<=h.getD k 0/\h.getD k 0<=2000000000) {A' now:List (List Int)} :
  jc FU (ws.length:Int) 0 caps flows A' R P g ws h now=some (qA h ws):=by
 have hc:=hn.c1
 have hwl:=hw.len
 have e0:h=tab h.length fun t=>if t < 0 then h.getD t 0+ws.getD t 0 else h.getD t 0:=(qbJ h).trans (Jh _ _)
 have h0:jc FU (ws.length:Int) 0 caps flows A' R P g ws (tab h.length fun t=>if t < 0 then h.getD t 0+ws.getD t 0 else h.getD t 0) now=some (qA h ws):=by
  refine qo (m:=h.length) (by omega) (fun n j (l:List Int)=>jc n (ws.length:Int) j caps flows A' R P g ws l now) (fun j=>tab h.length fun t=>if t < j then h.getD t 0+ws.getD t 0 else h.getD t 0) (qA h ws) (fun n j hj=>?_) fun n=>?_
  ·show jc (n+1) _ _ _ _ _ _ _ _ _ _ _=jc n _ _ _ _ _ _ _ _ _ _ _
   have hbj:=hb j (by omega)
   have hwj:=hw.bd j (by omega)
   rw [SI];unfold GT ck;rw [qd (show (j:Int) < (ws.length:Int) by omega),qd (show (0:Int)<=(j:Int) by omega),qd (show (j:Int) < (ws.length:Int) by omega),up1 (by omega)]
   simp only [Int.toNat_natCast,qp]
   rw [qd (show j < ws.length by omega),qd (show (j:Int) < (h.length:Int) by omega),qd hj,qea _ _ hj,qh (by omega) (by omega),Jy _ _ rfl]
  ·show jc (n+1) _ _ _ _ _ _ _ _ _ _ _=_
   rw [SI];unfold GT ck;rw [qg (show ¬ (h.length:Int) < (ws.length:Int) by omega)]
   exact congrArg some (qi fun t ht=>if_pos ht)
 rw [<- e0] at h0
 exact h0
theorem l34_16 (hl:h.length=caps.length) (hb:∀ k,k < caps.length->0<=h.getD k 0/\h.getD k 0<=2000000000) {A' now:List (List Int)} :
  qV FU (h.length:Int) 0 caps flows A' R P g ws h now (List.replicate h.length 0)=some (mnL h):=by
 have hc:=hn.c1
 have e0:List.replicate h.length (0:Int)=tab h.length fun t=>if t < 0 then mnS h t else 0:=(qB _).trans (Jh _ _)
 have e59:v59 h=some (Gs h):=v59_eq (by omega) (by omega)
 rw [e0]
 refine qo (m:=h.length) (by omega) (fun n j (l:List Int)=>qV n (h.length:Int) j caps flows A' R P g ws h now l) (fun j=>tab h.length fun t=>if t < j then mnS h t else 0) (mnL h) (fun n j hj=>?_) fun n=>?_
 ·show qV (n+1) _ _ _ _ _ _ _ _ _ _ _ _=qV n _ _ _ _ _ _ _ _ _ _ _ _
  have hbj:=hb j (by omega)
  rw [KC];unfold Gg ck;(repeat rewrite [obE]);rw [qd (show (j:Int) < (h.length:Int) by omega),qd (show (0:Int)<=(j:Int) by omega),qd (show (j:Int) < (h.length:Int) by omega),up1 (by omega)]
  simp only [Int.toNat_natCast,qp,e59,qf,qe,cond_true]
  have w1:wI (h.getD j 0*1024)=h.getD j 0*1024:=qh (by omega) (by omega)
  have q0:0<=Int.tdiv (h.getD j 0*1024) (max 1 (Gs h)):=Int.tdiv_nonneg (by omega) (by omega)
  have q1:Int.tdiv (h.getD j 0*1024) (max 1 (Gs h))<=h.getD j 0*1024:=by
   rw [Int.tdiv_eq_ediv_of_nonneg (by omega)]
   exact Int.ediv_le_self _ (by omega)
  have w2:wI (Int.tdiv (h.getD j 0*1024) (max 1 (Gs h)))=Int.tdiv (h.getD j 0*1024) (max 1 (Gs h)):=qh (by omega) (by omega)
  rw [qd hj,qd (show max 1 (Gs h)≠0 by omega),qd (show (j:Int) < (h.length:Int) by omega),qd hj,w1,w2,Jy (mnS h) _ (x:=max 16 (Int.tdiv (h.getD j 0*1024) (max 1 (Gs h)))) rfl]
 ·show qV (n+1) _ _ _ _ _ _ _ _ _ _ _ _=_
  rw [KC];unfold Gg ck;(repeat rewrite [obE]);rw [qg (show ¬ (h.length:Int) < (h.length:Int) by omega)]
  exact congrArg some (qi fun t ht=>if_pos ht)
theorem l34_32 (hw:Wt caps.length ws) (hfit:Fit caps flows) {A':List (List Int)} :
  qH FU (ldL caps flows (ql caps flows ws)) (tgS caps flows (ql caps flows ws):Int) (ws.length:Int) 0 caps flows A' R P g ws h=some (nxL caps flows ws):=by
 have hc:=hn.c1
 have hwl:=hw.len
 have hr:=qbD hn hw hfit
 have hz:=qbC hn hw hfit
 have ht:=KV hn hr hz
 have hld:(ldL caps flows (ql caps flows ws)).length=caps.length:=qp _ _
 have hlg:∀ k,k < caps.length->(ldL caps flows (ql caps flows ws)).getD k 0=qn flows (ql caps flows ws) k:=fun k hk=>qt _ hk
 have e0:ws=tab caps.length fun t=>if t < 0 then nxS caps flows ws t else ws.getD t 0:=(qbJ ws).trans ((congrArg (fun n=>tab n fun k=>ws.getD k 0) hwl).trans (Jh _ _))
 have h0:qH FU (ldL caps flows (ql caps flows ws)) (tgS caps flows (ql caps flows ws):Int) (ws.length:Int) 0 caps flows A' R P g (tab caps.length fun t=>if t < 0 then nxS caps flows ws t else ws.getD t 0) h=some (nxL caps flows ws):=by
  refine qo (m:=caps.length) (by omega) (fun n j (l:List Int)=>qH n (ldL caps flows (ql caps flows ws)) (tgS caps flows (ql caps flows ws):Int) (ws.length:Int) j caps flows A' R P g l h)
   (fun j=>tab caps.length fun t=>if t < j then nxS caps flows ws t else ws.getD t 0) (nxL caps flows ws) (fun n j hj=>?_) fun n=>?_
  ·show qH (n+1) _ _ _ _ _ _ _ _ _ _ _ _=qH n _ _ _ _ _ _ _ _ _ _ _ _
   have hwj:=hw.bd j hj
   have hcj:=hn.cap j
   have hct:=hn.cap (tgS caps flows (ql caps flows ws))
   have hlj:=qbu hn (by omega) hr j
   rw [KD];unfold Gh ck;rw [qd (show (j:Int) < (ws.length:Int) by omega),qd (show (0:Int)<=(j:Int) by omega)]
   simp only [Int.toNat_natCast,qp,hld,hlg j hj,hlg _ ht.2.1]
   rw [qd (show (j:Int) < (caps.length:Int) by omega),qd hj,qd (show (j:Int) < (caps.length:Int) by omega),up1 (by omega)]
   by_cases c:caps.getD j 0 > 0
   ·rw [qd c,qd (show (j:Int) < (caps.length:Int) by omega),qd (show (0:Int)<=(tgS caps flows (ql caps flows ws):Int) by omega),qd (show (tgS caps flows (ql caps flows ws):Int) < (caps.length:Int) by omega),qd (show (tgS caps flows (ql caps flows ws):Int) < (caps.length:Int) by omega),qd (show qn flows (ql caps flows ws) (tgS caps flows (ql caps flows ws))≠0 by omega),qd (show caps.getD j 0≠0 by omega),qea _ _ hj]
    have p1:=Int.mul_le_mul hlj.2 hct.2 hct.1 (by omega)
    have p2:=Int.mul_nonneg hlj.1 hct.1
    have w1:wI (qn flows (ql caps flows ws) j*caps.getD (tgS caps flows (ql caps flows ws)) 0)=qn flows (ql caps flows ws) j*caps.getD (tgS caps flows (ql caps flows ws)) 0:=qh (by omega) (by omega)
    rw [w1]
    obtain ⟨x,hx⟩:∃ x,x=Int.tdiv (qn flows (ql caps flows ws) j*caps.getD (tgS caps flows (ql caps flows ws)) 0) (qn flows (ql caps flows ws) (tgS caps flows (ql caps flows ws))):=⟨_,rfl⟩
    have hx0:0<=x:=by rw [hx];exact Int.tdiv_nonneg p2 (by omega)
    have hx1:x<=32*64000000000*1000:=by
     rw [hx,Int.tdiv_eq_ediv_of_nonneg p2]
     exact Int.le_trans (Int.ediv_le_self _ p2) p1
    rw [<- hx]
    have w2:wI x=x:=qh (by omega) (by omega)
    have w3:wI (x*1000)=x*1000:=qh (by omega) (by omega)
    rw [w2,w3]
    obtain ⟨y,hy⟩:∃ y,y=Int.tdiv (x*1000) (caps.getD j 0):=⟨_,rfl⟩
    have hy0:0<=y:=by rw [hy];exact Int.tdiv_nonneg (by omega) (by omega)
    have hy1:y<=x*1000:=by
     rw [hy,Int.tdiv_eq_ediv_of_nonneg (by omega)]
     exact Int.ediv_le_self _ (by omega)
    have hf:fulS caps flows ws j=y:=by rw [hy,hx];rfl
    rw [<- hy]
    have w4:wI y=y:=qh (by omega) (by omega)
    have w5:wI (1000+min y 1000)=1000+min y 1000:=qh (by omega) (by omega)
    have p3:=Int.mul_le_mul hwj.2 (show 1000+min y 1000<=2000 by omega) (by omega) (by omega)
    have p4:=Int.mul_nonneg (show 0<=ws.getD j 0 by omega) (show 0<=1000+min y 1000 by omega)
    rw [w4,w5]
    have w6:wI (ws.getD j 0*(1000+min y 1000))=ws.getD j 0*(1000+min y 1000):=qh (by omega) (by omega)
    have q0:0<=Int.tdiv (ws.getD j 0*(1000+min y 1000)) 1500:=Int.tdiv_nonneg p4 (by omega)
    have q1:Int.tdiv (ws.getD j 0*(1000+min y 1000)) 1500<=ws.getD j 0*(1000+min y 1000):=by
     rw [Int.tdiv_eq_ediv_of_nonneg p4]
     exact Int.ediv_le_self _ p4
    have w7:wI (Int.tdiv (ws.getD j 0*(1000+min y 1000)) 1500)=Int.tdiv (ws.getD j 0*(1000+min y 1000)) 1500:=qh (by omega) (by omega)
    rw [w6,w7,Jy (nxS caps flows ws) _ (by unfold nxS;rw [qd c,hf])]
   ·rw [qg c,qe3 (nxS caps flows ws) _ (by unfold nxS;rw [qg c])]
  ·show qH (n+1) _ _ _ _ _ _ _ _ _ _ _ _=_
   rw [KD];unfold Gh ck;rw [qg (show ¬ (caps.length:Int) < (ws.length:Int) by omega)]
   exact congrArg some (qi fun t ht=>if_pos ht)
 rw [<- e0] at h0
 exact h0
theorem v34_eq (hfit:Fit caps flows) {k:Nat} (hk:k<=1000) (hi:Inv caps flows k (ws,A,h,R,P,g)):v34 caps flows A R P g ws h=
  some ((rdS caps flows (ws,A,h,R,P,g)).2.1,(rdS caps flows (ws,A,h,R,P,g)).2.2.2.1,(rdS caps flows (ws,A,h,R,P,g)).2.2.2.2.1,(rdS caps flows (ws,A,h,R,P,g)).2.2.2.2.2,(rdS caps flows (ws,A,h,R,P,g)).1,(rdS caps flows (ws,A,h,R,P,g)).2.2.1):=by
 have hw:Wt caps.length ws:=hi.wt
 have hrA:Rg caps flows (k*64000000000) A:=hi.rg
 have hl:h.length=caps.length:=hi.hl
 have hb:∀ j,j < caps.length->0<=h.getD j 0/\h.getD j 0<=k*1048576:=hi.hb
 have hnow:=qbD hn hw hfit
 have hnz:=qbC hn hw hfit
 obtain ⟨hsr,hsz⟩:=qd9 hn hfit hi
 obtain ⟨hsl,hsb⟩:=qd8 hn hfit hi
 have hc:=hn.c1
 have e1:JA caps flows A R P g ws h=some (ql caps flows ws):=qe4 hn (gl caps flows ws) (fun i t hi' ht=>by
  obtain ⟨b,_,_,hb1,hb2,hb3,hb4,hb5⟩:=qai hn hw hfit hi'
  unfold v55 tv55;(repeat rewrite [obE])
  rw [qbX hn hw hi']
  simp only [qf,qe,cond_true]
  by_cases c:t=b
  ·subst c
   have e:(chS caps flows ws i).2=qq caps flows ws i:=rfl
   have hv:v56 1000000000 1024 (qq caps flows ws i)=some (1000000000*1024 / qq caps flows ws i):=qbY (by omega) (by omega) (by omega) (by omega) (by omega) (by omega) (by
    have:(1000000000:Int)*1024 / qq caps flows ws i=gl caps flows ws i t:=hb4.symm
    omega)
   have e2:(1000000000:Int)*1024 / qq caps flows ws i=gl caps flows ws i t:=hb4.symm
   rw [show ((chS caps flows ws i).1==(t:Int))=true from by rw [hb1];exact beq_self_eq_true _,cond_true,e,hv]
   simp only [qf,qe,cond_true]
   rw [e2]
  ·rw [show ((chS caps flows ws i).1==(t:Int))=false from by rw [hb1,qu];exact decide_eq_false (by omega),hb5 t c];rfl)
 have hnowv:∀ i t:Nat,i < flows.length->t < (flows.getD i []).length->v57 (i:Int) (t:Int) caps flows A R P g ws h (ql caps flows ws)=some (rt A i t+rt (ql caps flows ws) i t):=fun i t hi' ht=>by
  have r1:=hrA.rate i t
  have r2:=hnow.rate i t
  have l1:=hrA.rl
  have l2:=hrA.rli i hi'
  have l3:=hnow.rl
  have l4:=hnow.rli i hi'
  unfold v57 tv57 ck
  rw [qd (show (0:Int)<=(i:Int) by omega),qd (show (i:Int) < (A.length:Int) by omega),qd (show (0:Int)<=(t:Int) by omega)]
  simp only [Int.toNat_natCast]
  rw [qd (show (t:Int) < ((A.getD i []).length:Int) by omega),qd (show (i:Int) < ((ql caps flows ws).length:Int) by omega),qd (show (t:Int) < (((ql caps flows ws).getD i []).length:Int) by omega)]
  rw [show (A.getD i []).getD t 0=rt A i t from rfl,show ((ql caps flows ws).getD i []).getD t 0=rt (ql caps flows ws) i t from rfl,qh (by omega) (by omega)]
 have e2:JB caps flows A R P g ws h (ql caps flows ws)=some (jl flows A (ql caps flows ws)):=qe5 hn (fun i t=>rt A i t+rt (ql caps flows ws) i t) hnowv
 have e3:=l34_0 hn (R:=R) (P:=P) (g:=g) hw hl (fun j hj=>by have:=hb j hj;omega) (A':=jl flows A (ql caps flows ws)) (now:=ql caps flows ws)
 have e4:v58 (ql caps flows ws) caps flows (jl flows A (ql caps flows ws)) R P g ws (qA h ws)=some (gP (R,P,g) (qC caps flows (ql caps flows ws) ws)):=v58_eq hn hw hfit (by omega) hnow hnz
 obtain ⟨o1,ho1⟩:∃ o,o=gP (R,P,g) (qC caps flows (ql caps flows ws) ws):=⟨_,rfl⟩
 have hsb':∀ j,j < caps.length->0<=(qA h ws).getD j 0/\(qA h ws).getD j 0<=2000000000:=fun j hj=>by have:=hsb j hj;simp only at this;omega
 have e5:=l34_16 hn (R:=o1.1) (P:=o1.2.1) (g:=o1.2.2) (ws:=ws) hsl hsb' (A':=jl flows A (ql caps flows ws)) (now:=ql caps flows ws)
 have hmw:Wt caps.length (mnL (qA h ws)):=by
  have:=mn_wt (h:=qA h ws) fun j hj=>(hsb' j (by rw [<- hsl];exact hj)).1
  rwa [show (qA h ws).length=caps.length from hsl] at this
 have e6:JD (jl flows A (ql caps flows ws)) (mnL (qA h ws)) caps flows (jl flows A (ql caps flows ws)) o1.1 o1.2.1 o1.2.2 ws (qA h ws)=some (gP (o1.1,o1.2.1,o1.2.2) (qC caps flows (jl flows A (ql caps flows ws)) (mnL (qA h ws)))):=
  qe9 hn hmw hfit (by omega) hsr hsz
 obtain ⟨o2,ho2⟩:∃ o,o=gP (o1.1,o1.2.1,o1.2.2) (qC caps flows (jl flows A (ql caps flows ws)) (mnL (qA h ws))):=⟨_,rfl⟩
 have e7:v60 (ql caps flows ws) caps flows (jl flows A (ql caps flows ws)) o2.1 o2.2.1 o2.2.2 ws (qA h ws)=some (ldL caps flows (ql caps flows ws)):=KW hn (by omega) hnow
 have hlb:∀ k,0<=(ldL caps flows (ql caps flows ws)).getD k 0/\(ldL caps flows (ql caps flows ws)).getD k 0<=3000000000000000:=fun k=>by
  by_cases hk:k < caps.length
  ·rw [show (ldL caps flows (ql caps flows ws)).getD k 0=qn flows (ql caps flows ws) k from qt _ hk]
   have:=qbu hn (by omega) hnow k
   omega
  ·rw [out1 (by rw [show (ldL caps flows (ql caps flows ws)).length=caps.length from qp _ _];omega)];omega
 have e8:v61 (ldL caps flows (ql caps flows ws)) caps flows (jl flows A (ql caps flows ws)) o2.1 o2.2.1 o2.2.2 ws (qA h ws)=some (tgS caps flows (ql caps flows ws):Int):=by
  rw [qbZ hn (show (ldL caps flows (ql caps flows ws)).length=caps.length from qp _ _) hlb,(KV hn hnow hnz).1]
 have e9:=l34_32 hn hw hfit (R:=o2.1) (P:=o2.2.1) (g:=o2.2.2) (h:=qA h ws) (A':=jl flows A (ql caps flows ws))
 have e132:jT caps flows (jl flows A (ql caps flows ws)) o2.1 o2.2.1 o2.2.2 ws (qA h ws) (ql caps flows ws)=some (nxL caps flows ws):=by
  unfold jT Gv;(repeat rewrite [obE])
  rw [e7]
  simp only [qf,qe,cond_true]
  rw [e8]
  simp only [qf,qe,cond_true]
  unfold gU Gw;(repeat rewrite [obE])
  rw [e9]
  rfl
 have e76:gf caps flows (jl flows A (ql caps flows ws)) o1.1 o1.2.1 o1.2.2 ws (qA h ws) (ql caps flows ws)=some (o2.1,o2.2.1,o2.2.2,nxL caps flows ws):=by
  unfold gf G8;(repeat rewrite [obE])
  rw [Int.toNat_natCast,e5]
  simp only [qf,qe,cond_true]
  unfold gS Gu;(repeat rewrite [obE])
  rw [e6,<- ho2]
  simp only [qf,qe,cond_true]
  rw [e132,qd (Int.le_refl _),qd (show ((qA h ws).length:Int)<=((2147483648:Nat):Int) by have:=hsl;simp only at this;omega)]
  rfl
 have hR:rdS caps flows (ws,A,h,R,P,g)=(nxL caps flows ws,jl flows A (ql caps flows ws),qA h ws,o2):=by
  unfold rdS
  rw [ho2,ho1]
 rw [hR]
 unfold v34 tv34;(repeat rewrite [obE])
 rw [e1]
 simp only [qf,qe,cond_true]
 unfold GM G6;(repeat rewrite [obE])
 rw [e2]
 simp only [qf,qe,cond_true]
 rw [e3]
 simp only [qf,qe,cond_true]
 unfold GN G7;(repeat rewrite [obE])
 rw [e4,<- ho1]
 simp only [qf,qe,cond_true]
 rw [e76]
 rfl
end
def Jk (caps:List Int) (flows:Fl):Bool:=(List.range flows.length).all fun i=>!decide ((chS caps flows (w0L caps.length) i).1 < 0)
theorem fit_iff {caps:List Int} {flows:Fl}:Jk caps flows=true↔Fit caps flows:=by
 unfold Jk
 rw [List.all_eq_true]
 constructor
 ·intro h i hi
  have h1:=h i (List.mem_range.2 hi)
  rcases Jw caps (flows.getD i []) (w0L caps.length) (flows.getD i []).length with ⟨h2,_⟩ | ⟨b,h2,h3,_⟩
  ·have e:(chS caps flows (w0L caps.length) i).1=-1:=h2
   rw [e] at h1
   exact absurd h1 (by decide)
  ·exact ⟨b,h2,h3⟩
 ·intro h i hi
  obtain ⟨t,ht,hu⟩:=h i (List.mem_range.1 hi)
  rcases Jw caps (flows.getD i []) (w0L caps.length) (flows.getD i []).length with ⟨_,h2⟩ | ⟨b,_,_,h4,_⟩
  ·rw [h2 t ht] at hu;cases hu
  ·have e:(chS caps flows (w0L caps.length) i).1=(b:Int):=congrArg Prod.fst h4
   rw [e,decide_eq_false (by omega)];rfl
def DH (caps:List Int) (flows:Fl) (r:Int):Bst:=(stN caps flows (r.toNat+1)).2.2.2
def qbH (caps:List Int) (flows:Fl) (r:Int):List (List Int)×List Int×Int×Int:=
 cond (jj caps flows&&decide (0<=r/\r<=1000)) (cond (Jk caps flows) ((DH caps flows r).1,(DH caps flows r).2.1,(DH caps flows r).2.2,0) ([],[],0,4)) ([],[],0,1)
theorem v14_eq {caps:List Int} {flows:Fl} {rates:List (List Int)} {prices:List Int} (hf:Few caps flows rates prices) (r:Int):v14 caps flows r=some (qbH caps flows r):=by
 unfold v14 tv14 qbH;(repeat rewrite [obE])
 rw [qed hf]
 simp only [qf,qe,cond_true,jg]
 cases hv:jj caps flows with
 | false=>rfl
 | true=>
 rw [cond_true,Bool.true_and]
 by_cases c1:r < 0
 ·rw [qd c1,decide_eq_false (show ¬ (0<=r/\r<=1000) by omega)];rfl
 rw [qg c1]
 by_cases c2:r > 1000
 ·rw [qd c2,decide_eq_false (show ¬ (0<=r/\r<=1000) by omega)];rfl
 rw [qg c2,decide_eq_true (show 0<=r/\r<=1000 by omega),cond_true]
 have hn:=nw_of hv
 have hc:=hn.c1
 have hfl:=hn.f1
 have hw:=w0_wt caps.length
 have e0:jm FU r ((List.replicate caps.length (0:Int)).length:Int) 0 caps flows 0 caps flows [] [] 0 (List.replicate caps.length 0) (List.replicate caps.length 0) [] []=some (w0L caps.length):=by
  rw [List.length_replicate,show List.replicate caps.length (0:Int)=tab caps.length fun t=>if t < 0 then (1024:Int) else 0 from (qB _).trans (Jh _ _)]
  refine qo (m:=caps.length) (by omega) (fun n j (l:List Int)=>jm n r (caps.length:Int) j caps flows 0 caps flows [] [] 0 l (tab caps.length fun t=>if t < 0 then (1024:Int) else 0) [] []) (fun j=>tab caps.length fun t=>if t < j then (1024:Int) else 0) (w0L caps.length) (fun n j hj=>?_) fun n=>?_
  ·show jm (n+1) _ _ _ _ _ _ _ _ _ _ _ _ _ _ _=jm n _ _ _ _ _ _ _ _ _ _ _ _ _ _ _
   rw [Sy];unfold gm ck;rw [qd (show (j:Int) < (caps.length:Int) by omega),qd (show (0:Int)<=(j:Int) by omega),up1 (by omega)]
   simp only [Int.toNat_natCast,qp]
   rw [qd (show (j:Int) < (caps.length:Int) by omega),qd hj,Jy (fun _=>(1024:Int)) (fun _=>0) rfl]
  ·show jm (n+1) _ _ _ _ _ _ _ _ _ _ _ _ _ _ _=_
   rw [Sy];unfold gm ck;rw [qg (show ¬ (caps.length:Int) < (caps.length:Int) by omega)]
   exact congrArg some (qi fun t ht=>if_pos ht)
 have e1:v31 caps flows [] [] 0 (w0L caps.length) (List.replicate caps.length 0)=some (rtT flows fun _ _=>0):=v31_eq hn (fun _ _=>0) (fun _ _ _ _=>rfl)
 have e2:qD FU r (flows.length:Int) 0 0 caps flows (rtT flows fun _ _=>0) [] [] 0 (w0L caps.length) (List.replicate caps.length 0) [] []=some (cond (Jk caps flows) (.inr ()) (.inl (4,0))):=by
  refine qc0 (m:=flows.length) (by omega) (fun n i=>qD n r (flows.length:Int) i 0 caps flows (rtT flows fun _ _=>0) [] [] 0 (w0L caps.length) (List.replicate caps.length 0) [] []) ((4,0):Int×Int) (fun i=>decide ((chS caps flows (w0L caps.length) i).1 < 0)) (fun n i hi=>?_) fun n=>?_
  ·show qD (n+1) _ _ _ _ _ _ _ _ _ _ _ _ _ _=_
   rw [Kt];unfold jW;(repeat rewrite [obE]);rw [qd (show (i:Int) < (flows.length:Int) by omega),qbX hn hw hi,up1 (by omega)]
   rfl
  ·show qD (n+1) _ _ _ _ _ _ _ _ _ _ _ _ _ _=_
   rw [Kt];unfold jW;(repeat rewrite [obE]);rw [qg (show ¬ (flows.length:Int) < (flows.length:Int) by omega)]
 have e36:qz r caps flows 0 caps flows [] [] 0 (List.replicate caps.length 0) (List.replicate caps.length 0) [] []=some (cond (Jk caps flows) (.inr (0,(DH caps flows r).1,(DH caps flows r).2.1,(DH caps flows r).2.2)) (.inl (4,0))):=by
  unfold qz G4;(repeat rewrite [obE])
  rw [e0]
  simp only [qf,qe,cond_true]
  rw [e1]
  simp only [qf,qe,cond_true]
  unfold jI G5;(repeat rewrite [obE])
  rw [e2]
  cases hfit:Jk caps flows with
  | false=>rfl
  | true=>
   have hfit':=fit_iff.1 hfit
   have w1:wI (r+1)=((r.toNat+1:Nat):Int):=by rw [qh (by omega) (by omega)];omega
   have h32:qP FU ((r.toNat+1:Nat):Int) 0 0 caps flows (rtT flows fun _ _=>0) [] [] 0 (w0L caps.length) (List.replicate caps.length 0) [] []=
     some ((stN caps flows (r.toNat+1)).2.1,(stN caps flows (r.toNat+1)).2.2.2.1,(stN caps flows (r.toNat+1)).2.2.2.2.1,(stN caps flows (r.toNat+1)).2.2.2.2.2,(stN caps flows (r.toNat+1)).1,(stN caps flows (r.toNat+1)).2.2.1):=by
    rw [qB]
    refine qo (m:=r.toNat+1) (by omega) (fun n j (s:Stt)=>qP n ((r.toNat+1:Nat):Int) j 0 caps flows s.2.1 s.2.2.2.1 s.2.2.2.2.1 s.2.2.2.2.2 s.1 s.2.2.1 [] []) (stN caps flows) _ (fun n j hj=>?_) fun n=>?_
    ·show qP (n+1) _ _ _ _ _ _ _ _ _ _ _ _ _=qP n _ _ _ _ _ (rdS caps flows (stN caps flows j)).2.1 (rdS caps flows (stN caps flows j)).2.2.2.1 (rdS caps flows (stN caps flows j)).2.2.2.2.1 (rdS caps flows (stN caps flows j)).2.2.2.2.2 (rdS caps flows (stN caps flows j)).1 (rdS caps flows (stN caps flows j)).2.2.1 _ _
     have hv34:=v34_eq hn hfit' (show j<=1000 by omega) (qc1 hn hfit' j)
     rw [Ku];unfold jX;(repeat rewrite [obE]);rw [qd (show (j:Int) < ((r.toNat+1:Nat):Int) by omega),hv34,up1 (by omega)]
     rfl
    ·show qP (n+1) _ _ _ _ _ _ _ _ _ _ _ _ _=_
     rw [Ku];unfold jX;(repeat rewrite [obE]);rw [qg (show ¬ ((r.toNat+1:Nat):Int) < ((r.toNat+1:Nat):Int) by omega)]
   simp only [cond_true,Jm,GQ,qf,qe,cond_false]
   unfold gR Gt;(repeat rewrite [obE])
   rw [w1,h32]
   rfl
 rw [Int.toNat_natCast,e36,qd (Int.le_refl _),qd (show (caps.length:Int)<=((2147483648:Nat):Int) by omega)]
 cases Jk caps flows<;>rfl
theorem l11_16 (rates:List (List Int)) (caps:List Int) (flows:Fl) {i:Nat} (hi:i < flows.length) (hf:(flows.getD i []).length<=20) :
  qx FU rates (i:Int) 0 caps flows=some (cond ((flows.getD i []).all fun l=>decide (l.length<=20)) (.inr ()) (.inl false)):=by
 rw [<- qO (flows.getD i []) [] fun l=>decide (l.length<=20)]
 refine q8 (m:=(flows.getD i []).length) (by omega) (fun n j=>qx n rates (i:Int) j caps flows) _ (fun n j hj=>?_) fun n=>?_
 ·show qx (n+1) _ _ _ _ _=_
  rw [Kr];unfold Gc ck;rw [decide_eq_true (show (0:Int)<=(i:Int) by omega),decide_eq_true (show (i:Int) < (flows.length:Int) by omega)]
  simp only [cond_true,Int.toNat_natCast]
  rw [decide_eq_true (show (j:Int) < ((flows.getD i []).length:Int) by omega),decide_eq_true (show (0:Int)<=(j:Int) by omega),up1 (by omega),dgt]
  simp only [cond_true,jg]
 ·show qx (n+1) _ _ _ _ _=_
  rw [Kr];unfold Gc ck;rw [decide_eq_true (show (0:Int)<=(i:Int) by omega),decide_eq_true (show (i:Int) < (flows.length:Int) by omega)]
  simp only [cond_true,Int.toNat_natCast]
  rw [decide_eq_false (show ¬ ((flows.getD i []).length:Int) < ((flows.getD i []).length:Int) by omega)]
  rfl
theorem l11_0 (rates:List (List Int)) (caps:List Int) (flows:Fl) (hl:flows.length<=20):ja FU rates 0 caps flows=some (cond (fewF flows) (.inr ()) (.inl false)):=by
 unfold fewF
 rw [<- qO flows [] fun f=>cond (decide (f.length<=20)) (f.all fun l=>decide (l.length<=20)) false]
 refine q8 (m:=flows.length) (by omega) (fun n j=>ja n rates j caps flows) _ (fun n i hi=>?_) fun n=>?_
 ·show ja (n+1) _ _ _ _=_
  rw [Sx];unfold GR;(repeat rewrite [obE]);rw [decide_eq_true (show (i:Int) < (flows.length:Int) by omega),decide_eq_true (show (0:Int)<=(i:Int) by omega),up1 (by omega),dgt]
  simp only [cond_true,Int.toNat_natCast,jg]
  by_cases h:(flows.getD i []).length<=20
  ·rw [decide_eq_true h,l11_16 rates caps flows hi h]
   simp only [cond_true]
   cases (flows.getD i []).all fun l=>decide (l.length<=20)<;>rfl
  ·rw [decide_eq_false h];rfl
 ·show ja (n+1) _ _ _ _=_
  rw [Sx];unfold GR;(repeat rewrite [obE]);rw [decide_eq_false (show ¬ (flows.length:Int) < (flows.length:Int) by omega)]
  rfl
theorem l11_32 (rates:List (List Int)) (hl:rates.length<=20):qF FU rates 0=some (cond (rates.all fun l=>decide (l.length<=20)) (.inr ()) (.inl false)):=by
 rw [<- qO rates [] fun l=>decide (l.length<=20)]
 refine q8 (m:=rates.length) (by omega) (fun n j=>qF n rates j) _ (fun n i hi=>?_) fun n=>?_
 ·show qF (n+1) _ _=_
  rw [Ks];unfold Gd;rw [decide_eq_true (show (i:Int) < (rates.length:Int) by omega),decide_eq_true (show (0:Int)<=(i:Int) by omega),up1 (by omega),dgt]
  simp only [cond_true,Int.toNat_natCast,jg]
 ·show qF (n+1) _ _=_
  rw [Ks];unfold Gd;rw [decide_eq_false (show ¬ (rates.length:Int) < (rates.length:Int) by omega)]
  rfl
theorem v11_eq (caps:List Int) (flows:Fl) (rates:List (List Int)) (prices:List Int):v11 caps flows rates prices=some (fewS caps flows rates prices):=by
 unfold v11 tv11 fewS;(repeat rewrite [obE])
 simp only [dgt,jg]
 by_cases h1:caps.length<=20
 case neg=>rw [decide_eq_false h1];rfl
 by_cases h2:flows.length<=20
 case neg=>rw [decide_eq_true h1,decide_eq_false h2];rfl
 by_cases h3:rates.length<=20
 case neg=>rw [decide_eq_true h1,decide_eq_true h2,decide_eq_false h3];rfl
 by_cases h4:prices.length<=20
 case neg=>rw [decide_eq_true h1,decide_eq_true h2,decide_eq_true h3,decide_eq_false h4];rfl
 rw [decide_eq_true h1,decide_eq_true h2,decide_eq_true h3,decide_eq_true h4,l11_0 rates caps flows h2,l11_32 rates h3]
 simp only [cond_true,Bool.true_and]
 cases fewF flows with
 | false=>rfl
 | true=>cases rates.all fun l=>decide (l.length<=20)<;>rfl
theorem l42 (l:List Int) (links:Int) (hl:Len l):∀ (k n i:Nat) (last:Int),i+k=l.length->k < n->(i=0->last=-1)->(0 < i->last=l.getD (i - 1) 0/\0<=last)->
  jM n l links (i:Int)=some (cond (jS links last (l.drop i)) (.inr ()) (.inl false)):=by
 intro k
 induction k with
 | zero=>
  intro n i last h1 h2 h3 h4
  cases n with
  | zero=>omega
  | succ n=>
   rw [SJ];unfold GU ck;rw [decide_eq_false (show ¬ ((i:Int) < (l.length:Int)) by omega),List.drop_of_length_le (show l.length<=i by omega)]
   rfl
 | succ k ih=>
  intro n i last h1 h2 h3 h4
  cases n with
  | zero=>omega
  | succ n=>
   have hi:i < l.length:=by omega
   have hl':l.length<=9223372036854775807:=hl
   rw [SJ];unfold GU ck;rw [decide_eq_true (show (i:Int) < (l.length:Int) by omega),decide_eq_true (show (0:Int)<=(i:Int) by omega),up1 (by omega)]
   simp only [cond_true,Int.toNat_natCast]
   rw [Ko hi 0,jS]
   have step:0<=l.getD i 0->jM n l links ((i+1:Nat):Int)=some (cond (jS links (l.getD i 0) (l.drop (i+1))) (.inr ()) (.inl false)):=fun h0=>ih n (i+1) _ (by omega) (by omega) (by omega) fun _=>⟨by simp,h0⟩
   by_cases c1:l.getD i 0 < 0
   ·rw [decide_eq_true c1,decide_eq_false (show ¬ (last < l.getD i 0/\l.getD i 0 < links) by
     rintro ⟨h5,_⟩
     by_cases hz:i=0
     ·rw [h3 hz] at h5;omega
     ·have:=h4 (by omega);omega)]
    rfl
   rw [decide_eq_false c1]
   by_cases c2:l.getD i 0≥links
   ·rw [decide_eq_true c2,decide_eq_false (show ¬ (last < l.getD i 0/\l.getD i 0 < links) by omega)]
    rfl
   rw [decide_eq_false c2]
   simp only [cond_false]
   by_cases hz:i=0
   ·subst hz
    rw [decide_eq_false (show ¬ ((0:Nat):Int) > 0 by omega),decide_eq_true (show last < l.getD 0 0/\l.getD 0 0 < links by rw [h3 rfl];omega)]
    simp only [cond_true,cond_false]
    exact step (by omega)
   ·obtain ⟨h5,h6⟩:=h4 (by omega)
    rw [decide_eq_true (show (i:Int) > 0 by omega),dn1 (by omega) (by omega),decide_eq_true (show (0:Int)<=((i - 1:Nat):Int) by omega),decide_eq_true (show ((i - 1:Nat):Int) < (l.length:Int) by omega)]
    simp only [cond_true,Int.toNat_natCast]
    by_cases c3:l.getD i 0<=l.getD (i - 1) 0
    ·rw [decide_eq_true c3,decide_eq_false (show ¬ (last < l.getD i 0/\l.getD i 0 < links) by omega)];rfl
    ·rw [decide_eq_false c3,decide_eq_true (show last < l.getD i 0/\l.getD i 0 < links by omega)]
     simp only [cond_true,cond_false]
     exact step (by omega)
theorem v42_eq (l:List Int) (links:Int) (hl:Len l):v42 l links=some (jk l links):=by
 unfold v42 tv42 jk;(repeat rewrite [obE])
 have h:=l42 l links hl l.length FU 0 (-1) (by omega) (by have:l.length<=9223372036854775807:=hl;unfold FU;omega) (fun _=>rfl) (fun h=>by omega)
 simp only [Int.natCast_zero,List.drop_zero] at h
 rw [h]
 cases jS links (-1) l with
 | false=>rfl
 | true=>
  simp only [cond_true,Jm,GQ,qf,cond_false,qbx]
  congr 1
  apply decide_eq_decide.2
  constructor<;>intro h<;>omega
theorem l24_0 (caps:List Int) (flows:Fl) (hl:caps.length<=20):jb FU 0 caps flows=some (cond (Ju caps) (.inr ()) (.inl false)):=by
 unfold Ju
 rw [<- qO caps 0 fun n=>decide (0<=n/\n<=1000)]
 refine q8 (m:=caps.length) (by omega) (fun n j=>jb n j caps flows) _ (fun n i hi=>?_) fun n=>?_
 ·show jb (n+1) _ _ _=_
  rw [Sz];unfold GS;rw [decide_eq_true (show (i:Int) < (caps.length:Int) by omega),decide_eq_true (show (0:Int)<=(i:Int) by omega),up1 (by omega)]
  simp only [cond_true,Int.toNat_natCast]
  by_cases c1:caps.getD i 0 < 0
  ·rw [decide_eq_true c1,decide_eq_false (show ¬ (0<=caps.getD i 0/\caps.getD i 0<=1000) by omega)];rfl
  by_cases c2:caps.getD i 0 > 1000
  ·rw [decide_eq_false c1,decide_eq_true c2,decide_eq_false (show ¬ (0<=caps.getD i 0/\caps.getD i 0<=1000) by omega)];rfl
  rw [decide_eq_false c1,decide_eq_false c2,decide_eq_true (show 0<=caps.getD i 0/\caps.getD i 0<=1000 by omega)];rfl
 ·show jb (n+1) _ _ _=_
  rw [Sz];unfold GS;rw [decide_eq_false (show ¬ (caps.length:Int) < (caps.length:Int) by omega)]
  rfl
theorem l24_32 (x0:Int) (f:List (List Int)) (caps:List Int) (flows:Fl) (hl:f.length<=20) (hp:∀ k,(f.getD k []).length<=20):qy FU x0 f 0 caps flows=some (cond (f.all fun l=>jk l caps.length) (.inr ()) (.inl false)):=by
 rw [<- qO f [] fun l=>jk l caps.length]
 refine q8 (m:=f.length) (by omega) (fun n j=>qy n x0 f j caps flows) _ (fun n i hi=>?_) fun n=>?_
 ·show qy (n+1) _ _ _ _ _=_
  have:=hp i
  rw [Kw];unfold Gf;(repeat rewrite [obE]);rw [decide_eq_true (show (i:Int) < (f.length:Int) by omega),decide_eq_true (show (0:Int)<=(i:Int) by omega),up1 (by omega)]
  simp only [cond_true,Int.toNat_natCast]
  rw [v42_eq _ _ (show (f.getD i []).length<=9223372036854775807 by omega)]
  simp only [qf,qe,cond_true,jg]
 ·show qy (n+1) _ _ _ _ _=_
  rw [Kw];unfold Gf;(repeat rewrite [obE]);rw [decide_eq_false (show ¬ (f.length:Int) < (f.length:Int) by omega)]
  rfl
theorem l24_16 (caps:List Int) (flows:Fl) (hl:flows.length<=20) (hf:∀ i,(flows.getD i []).length<=20) (hp:∀ i k,((flows.getD i []).getD k []).length<=20):qG FU 0 caps flows=some (cond (flows.all (jO caps.length)) (.inr ()) (.inl false)):=by
 rw [<- qO flows [] (jO caps.length)]
 refine q8 (m:=flows.length) (by omega) (fun n j=>qG n j caps flows) _ (fun n i hi=>?_) fun n=>?_
 ·show qG (n+1) _ _ _=_
  rw [Kv];unfold Ge;(repeat rewrite [obE]);rw [decide_eq_true (show (i:Int) < (flows.length:Int) by omega),decide_eq_true (show (0:Int)<=(i:Int) by omega),up1 (by omega)]
  simp only [cond_true,Int.toNat_natCast]
  unfold jO
  rw [l24_32 _ _ _ _ (hf i) (hp i)]
  by_cases c1:((flows.getD i []).length:Int) < 1
  ·rw [decide_eq_true c1,decide_eq_false (show ¬ (1<=(flows.getD i []).length/\(flows.getD i []).length<=4) by omega)];rfl
  by_cases c2:((flows.getD i []).length:Int) > 4
  ·rw [decide_eq_false c1,decide_eq_true c2,decide_eq_false (show ¬ (1<=(flows.getD i []).length/\(flows.getD i []).length<=4) by omega)];rfl
  rw [decide_eq_false c1,decide_eq_false c2,decide_eq_true (show 1<=(flows.getD i []).length/\(flows.getD i []).length<=4 by omega)]
  simp only [cond_true,cond_false]
  cases (flows.getD i []).all fun l=>jk l caps.length<;>rfl
 ·show qG (n+1) _ _ _=_
  rw [Kv];unfold Ge;(repeat rewrite [obE]);rw [decide_eq_false (show ¬ (flows.length:Int) < (flows.length:Int) by omega)]
  rfl
theorem v24_eq {caps:List Int} {flows:Fl} {rates:List (List Int)} {prices:List Int} (h:Few caps flows rates prices):v24 caps flows=some (jj caps flows):=by
 unfold v24 tv24 jj;(repeat rewrite [obE])
 rw [l24_0 caps flows h.hc,l24_16 caps flows h.hf h.flow h.path]
 by_cases c1:(caps.length:Int) < 1
 ·rw [decide_eq_true c1,decide_eq_false (show ¬ (1<=caps.length/\caps.length<=8) by omega)];rfl
 by_cases c2:(caps.length:Int) > 8
 ·rw [decide_eq_false c1,decide_eq_true c2,decide_eq_false (show ¬ (1<=caps.length/\caps.length<=8) by omega)];rfl
 by_cases c3:(flows.length:Int) < 1
 ·rw [decide_eq_false c1,decide_eq_false c2,decide_eq_true c3,decide_eq_false (show ¬ (1<=flows.length/\flows.length<=8) by omega)];simp
 by_cases c4:(flows.length:Int) > 8
 ·rw [decide_eq_false c1,decide_eq_false c2,decide_eq_false c3,decide_eq_true c4,decide_eq_false (show ¬ (1<=flows.length/\flows.length<=8) by omega)];simp
 rw [decide_eq_false c1,decide_eq_false c2,decide_eq_false c3,decide_eq_false c4,decide_eq_true (show 1<=caps.length/\caps.length<=8 by omega),decide_eq_true (show 1<=flows.length/\flows.length<=8 by omega)]
 simp only [cond_false,Bool.true_and]
 cases Ju caps with
 | false=>rfl
 | true=>cases flows.all (jO caps.length)<;>rfl
def mcN (caps l:List Int):Nat->Int
 | 0=>1000
 | j+1=>min (mcN caps l j) (caps.getD (l.getD j 0).toNat 0)
theorem qb3 (caps l:List Int) (h0:∀ k,0<=caps.getD k 0):∀ j,mcN caps l j > 0↔∀ x,x < j->caps.getD (l.getD x 0).toNat 0≠0
 | 0=>⟨fun _ x hx=>by omega,fun _=>by show (1000:Int) > 0;omega⟩
 | j+1=>by
  have ih:=qb3 caps l h0 j
  have hj:=h0 (l.getD j 0).toNat
  show min (mcN caps l j) (caps.getD (l.getD j 0).toNat 0) > 0↔_
  constructor
  ·intro h x hx
   by_cases c:x=j
   ·rw [c];omega
   ·exact ih.1 (by omega) x (by omega)
  ·intro h
   have h1:=ih.2 fun x hx=>h x (by omega)
   have h2:=h j (by omega)
   omega
def anyS (caps:List Int) (flows:Fl) (i:Nat):Bool:=(List.range (flows.getD i []).length).any fun t=>qL caps ((flows.getD i []).getD t [])
theorem any_fit (caps:List Int) (flows:Fl):((List.range flows.length).all fun i=>anyS caps flows i)=Jk caps flows:=by
 rw [Bool.eq_iff_iff,fit_iff,List.all_eq_true]
 constructor
 ·intro h i hi
  have:=h i (List.mem_range.2 hi)
  unfold anyS at this
  obtain ⟨t,ht,hu⟩:=List.any_eq_true.1 this
  exact ⟨t,List.mem_range.1 ht,hu⟩
 ·intro h i hi
  obtain ⟨t,ht,hu⟩:=h i (List.mem_range.1 hi)
  exact List.any_eq_true.2 ⟨t,List.mem_range.2 ht,hu⟩
theorem qd6 (f:Nat->Bool) (j:Nat):(List.range (j+1)).any f=((List.range j).any f||f j):=by rw [List.range_succ,List.any_append];simp
theorem qd5 (f:Nat->Bool) (j:Nat):(List.range (j+1)).all f=((List.range j).all f&&f j):=by rw [List.range_succ,List.all_append];simp
section
variable {caps : List Int} {flows : Fl} (hn : Nw caps flows)
include hn
theorem l8_32 {i t:Nat} (hi:i < flows.length) (ht:t < (flows.getD i []).length) (r:Int) (a b c:Bool):jH FU r a b (i:Int) c (t:Int) 1000 0 caps flows=some (mcN caps ((flows.getD i []).getD t []) ((flows.getD i []).getD t []).length):=by
 have hp:=hn.hop i t hi ht
 have hp':((flows.getD i []).getD t []).length<=6:=hp.2
 refine qo (m:=((flows.getD i []).getD t []).length) (by omega) (fun n j (s:Int)=>jH n r a b (i:Int) c (t:Int) s j caps flows) (mcN caps ((flows.getD i []).getD t [])) _ (fun n j hj=>?_) fun n=>?_
 ·show jH (n+1) _ _ _ _ _ _ _ _ _ _=jH n _ _ _ _ _ _ (min (mcN caps ((flows.getD i []).getD t []) j) (caps.getD (((flows.getD i []).getD t []).getD j 0).toNat 0)) _ _ _
  have hl:=hn.link i t j hi ht hj
  rw [He];unfold G0 ck;rw [qd (show (0:Int)<=(i:Int) by omega),qd (show (i:Int) < (flows.length:Int) by omega),qd (show (0:Int)<=(t:Int) by omega)]
  simp only [Int.toNat_natCast]
  rw [qd (show (t:Int) < ((flows.getD i []).length:Int) by omega),qd (show (j:Int) < (((flows.getD i []).getD t []).length:Int) by omega),qd (show (0:Int)<=(j:Int) by omega),qd hl.1,qd hl.2,up1 (by omega)]
 ·show jH (n+1) _ _ _ _ _ _ _ _ _ _=_
  rw [He];unfold G0 ck;rw [qd (show (0:Int)<=(i:Int) by omega),qd (show (i:Int) < (flows.length:Int) by omega),qd (show (0:Int)<=(t:Int) by omega)]
  simp only [Int.toNat_natCast]
  rw [qd (show (t:Int) < ((flows.getD i []).length:Int) by omega),qg (show ¬ (((flows.getD i []).getD t []).length:Int) < (((flows.getD i []).getD t []).length:Int) by omega)]
theorem l8_16 {i:Nat} (hi:i < flows.length) (r:Int) (a b:Bool):jG FU r a b (i:Int) false 0 caps flows=some (anyS caps flows i):=by
 have h4:=hn.sub i hi
 refine qo (m:=(flows.getD i []).length) (by omega) (fun n j (s:Bool)=>jG n r a b (i:Int) s j caps flows) (fun j=>(List.range j).any fun t=>qL caps ((flows.getD i []).getD t [])) _ (fun n t ht=>?_) fun n=>?_
 ·show jG (n+1) _ _ _ _ _ _ _ _=jG n _ _ _ _ ((List.range (t+1)).any fun t=>qL caps ((flows.getD i []).getD t [])) _ _ _
  have e:decide (mcN caps ((flows.getD i []).getD t []) ((flows.getD i []).getD t []).length > 0)=qL caps ((flows.getD i []).getD t []):=by
   rw [Bool.eq_iff_iff,decide_eq_true_iff,use_iff]
   exact qb3 caps _ (fun k=>(hn.cap k).1) _
  rw [Hd];unfold gO ck;(repeat rewrite [obE]);rw [qd (show (0:Int)<=(i:Int) by omega),qd (show (i:Int) < (flows.length:Int) by omega)]
  simp only [Int.toNat_natCast]
  rw [qd (show (t:Int) < ((flows.getD i []).length:Int) by omega),up1 (by omega)]
  simp only [l8_32 hn hi ht,qf,qe,cond_true,e,qd6]
  cases (List.range t).any fun t=>qL caps ((flows.getD i []).getD t [])<;>rfl
 ·show jG (n+1) _ _ _ _ _ _ _ _=_
  rw [Hd];unfold gO ck;(repeat rewrite [obE]);rw [qd (show (0:Int)<=(i:Int) by omega),qd (show (i:Int) < (flows.length:Int) by omega)]
  simp only [Int.toNat_natCast]
  rw [qg (show ¬ ((flows.getD i []).length:Int) < ((flows.getD i []).length:Int) by omega)]
  rfl
theorem l8_0 (r:Int) (a:Bool):jN FU r a true 0 caps flows=some (Jk caps flows):=by
 have hf:=hn.f1
 rw [<- any_fit]
 refine qo (m:=flows.length) (by omega) (fun n j (s:Bool)=>jN n r a s j caps flows) (fun j=>(List.range j).all fun i=>anyS caps flows i) _ (fun n i hi=>?_) fun n=>?_
 ·show jN (n+1) _ _ _ _ _ _=jN n _ _ ((List.range (i+1)).all fun i=>anyS caps flows i) _ _ _
  rw [qaQ];unfold GK;(repeat rewrite [obE]);rw [qd (show (i:Int) < (flows.length:Int) by omega),l8_16 hn hi,up1 (by omega),qd5]
  cases (List.range i).all fun i=>anyS caps flows i<;>rfl
 ·show jN (n+1) _ _ _ _ _ _=_
  rw [qaQ];unfold GK;(repeat rewrite [obE]);rw [qg (show ¬ (flows.length:Int) < (flows.length:Int) by omega)]
end
theorem v8_true (caps:List Int) (flows:Fl) (r:Int):v8 caps flows r=some true:=by
 have hv:v10=some true:=rfl
 unfold v8 tv8;(repeat rewrite [obE])
 rw [v11_eq]
 simp only [qf,qe,cond_true,jg,hv]
 cases hx:fewS caps flows [] [] with
 | false=>rfl
 | true=>
 have hf:=few_iff hx
 rw [v24_eq hf]
 simp only [cond_true,qf,qe]
 cases h1:jj caps flows with
 | false=>rfl
 | true=>
 rw [cond_true]
 by_cases c1:r < 0
 ·rw [qd c1]
 rw [qg c1]
 by_cases c2:r > 1000
 ·rw [qd c2]
 rw [qg c2,l8_0 (nw_of h1),v14_eq hf]
 unfold qbH
 rw [h1,decide_eq_true (show 0<=r/\r<=1000 by omega)]
 cases Jk caps flows<;>rfl
end Go.Proofs.Ytpfphfobneehmaa
set_option maxRecDepth 100000
namespace Go.Proofs.Ytpfphfobneehmaa
open Go Go.ChangeShapes Go.WideShapes Go.ChangeAt Go.RowKit Go.AM Go.TM
theorem own0:ownKnob Try.prog.godebug=none:=by kernel_rfl
theorem laid0:laidOutB Try.prog=true:=by kernel_rfl
abbrev taus:List Ty:=[.pair (.list 3 (.int .i64)) (.list 31 (.list 22 (.list 3 (.int .i64)))),.int .i64]
theorem args0 (x:((List Int)×(List (List (List Int))))×Int×Unit):Ww Try.prog Try.f8.params.toList taus x=[.agg [.d 3 (.int .i64) x.1.1,.d 31 (.list 22 (.list 3 (.int .i64))) x.1.2],.sc (.int .i64 x.2.1)]:=by
 kernel_rfl
theorem law_run:∀ x:Tup taus,InTup taus x->∃ k H',TM.evF Try.prog S171.n dOk k 8 (Ww Try.prog Try.f8.params.toList taus x) []=some ([.sc (.bool true)],H'):=by
 intro x hx
 have e:=args0 x
 rw [e]
 refine ⟨41,[],(fn_eq (by kernel_rfl)).trans ((ev8 ..).trans (bD ?_))⟩
 exact v8_true _ _ _
theorem qcm (os:Os) (started:os.Started) (H:Type) (enc:TypeId×Value->H) :
  ReturnsInHanded {} Try.checked os 8 .any (Rows.multiErrorsSpec.pre6 enc Try.prog Try.f8 Rows.multiErrorsRow.domain false) (Rows.multiErrorsSpec.post enc Try.prog Try.f8 false true false false):=
 law_tm (C:=Try.checked) (τs:=taus) (tb:=4) (base:=base) (O:=S171.o) (T:=S171.t) own0 started (by kernel_rfl) Try.func8
  (ChangeSpec.witness6 (enc:=enc) (C:=Try.checked) false ⟨#[],#[.agg #[.slice none 0 0,.slice none 0 0],.int .i64 0],[]⟩ 8 (by kernel_rfl) (by kernel_rfl) (by kernel_rfl) (by kernel_rfl))
  laid0 (by kernel_rfl) (by kernel_rfl) rfl (by kernel_rfl) names mixed S171.ok (by kernel_rfl) (by kernel_rfl)
  (fun ds h=>by
   match ds,h with
   | [_,_],_=>rfl)
  law_run
theorem multiErrors_holds:Rows.MultiErrorsSaid:=
 OpenClaim.holds_of_wide 8 Try.f8 rfl rfl rfl rfl rfl rfl rfl ⟨rfl,rfl,rfl,rfl,rfl⟩ rfl rfl rfl rfl rfl (by kernel_rfl) Try.func8 (by kernel_rfl)
  (of_decide_eq_true (by kernel_rfl)) (by unfold Func.isWrapper;first | (rw [if_pos (by decide +kernel)];kernel_rfl) | (rw [if_neg (by decide +kernel)];exact ⟨rfl,rfl⟩))
  (fun os started H enc _=>qcm os started H enc)
end Go.Proofs.Ytpfphfobneehmaa
