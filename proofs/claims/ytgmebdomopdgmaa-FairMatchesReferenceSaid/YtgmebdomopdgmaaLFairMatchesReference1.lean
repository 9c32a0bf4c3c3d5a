/- FairMatchesReference: it returns true at every input; no conditions. -/
import Derived.Test.YtgmebdomopdgmaaLFairMatchesReference0
import Derived.Test.YtgmebdomopdgmaaRows
import Derived.ProofKit
set_option linter.all false
namespace Go.Proofs.Ytgmebdomopdgmaa
open Go Go.AM Go.TM Go.Proofs
def qV {α:Type} (g:α→Int) (s:Int) (y:α):Int:=if s < 0 then g y else if g y < s then g y else s
theorem gi {α:Type} (g:α→Int):∀ {l:List α},0 < l.length→(∀ x∈l,0≤g x)→l.foldl (qV g) (-1)=minL g l
 | a::l,_,h=>by
  have key:∀ (l:List α) (s:Int),0≤s→(∀ x∈l,0≤g x)→l.foldl (qV g) s=l.foldl (jc g) s:=by
   intro l
   induction l with
   | nil=>intro s _ _;rfl
   | cons b l ih=>
    intro s hs hx
    have hb:=hx b List.mem_cons_self
    simp only [List.foldl_cons]
    have e:qV g s b=jc g s b:=by
     unfold qV jc
     rw [if_neg (by omega)]
     split<;>omega
    rw [e]
    exact ih _ (by unfold jc;omega) fun x hm=>hx x (List.mem_cons_of_mem _ hm)
  show l.foldl (qV g) (qV g (-1) a)=l.foldl (jc g) (g a)
  have e:qV g (-1) a=g a:=by unfold qV;rw [if_pos (by omega)]
  rw [e]
  exact key l (g a) (h a List.mem_cons_self) fun x hm=>h x (List.mem_cons_of_mem _ hm)
section
variable {Cq : List Int} {Fw : List (List Int)} {ws : List Int} (hn : Nw Cq Fw) (hw : Wt Cq.length Fw ws)
include hn hw
theorem gJ {f:List Int} (hf:f∈Fw):v58 ws f=some (wS ws f):=by
 have hl:=hn.h1 f hf
 have hwl:=hw.len
 have h0:LaG FU ws f 0 0=some (wS ws f):=by
  refine qm (m:=f.length) (by omega) (fun n j (s:Int)=>LaG n ws f s j) (fun j=>qz (fun k=>ws.getD k.toNat 0) (f.take j)) (wS ws f) (fun n j hj=>?_) (fun n=>?_)
  ·show LaG (n+1) _ _ _ _=LaG n _ _ _ _
   have hb:=qZ (g:=fun k=>ws.getD k.toNat 0) (c:=100000) (m:=6) (by omega) (l:=f.take (j+1)) (by rw [List.length_take];omega) fun k hk=>hw.bd _
   have hr:=hn.rg f hf _ (qM hj 0)
   rw [ju (fun k=>ws.getD k.toNat 0) f 0 hj] at hb ⊢
   rw [qLaG,dT (show (j:Int) < (f.length:Int) by omega),dT (show (0:Int)≤(j:Int) by omega),up1 (by omega)]
   simp only [cond_true,tN]
   rw [dT hr.1,dT (show f.getD j 0 < (ws.length:Int) by omega),qg (by omega) (by omega)]
   rfl
  ·show LaG (n+1) _ _ _ _=_
   rw [qLaG,dF (show ¬ (f.length:Int) < (f.length:Int) by omega),qB]
   rfl
 unfold v58
 rw [h0];rfl
theorem l56_16 (lim out:List Int) (t:Nat):Lam FU ws (t:Int) 0 0 Cq Fw lim out=some (qe ws Fw t):=by
 have hf:=hn.nf
 refine qm (m:=Fw.length) (by omega) (fun n j (s:Int)=>Lam n ws (t:Int) s j Cq Fw lim out) (fun j=>qz (fun fl=>onS t (ql ws fl) fl) (Fw.take j)) _ (fun n j hj=>?_) (fun n=>?_)
 ·show Lam (n+1) _ _ _ _ _ _ _ _=Lam n _ _ _ _ _ _ _ _
  have hm:=jv Fw hj
  have h6:=(hn.h1 _ hm).2
  have hw1:=jR hn hw hm
  have hp:=ja hn hw hm
  have hb:=qZ (g:=fun fl=>onS t (ql ws fl) fl) (c:=1000000000) (m:=8) (by omega) (l:=Fw.take (j+1)) (by rw [List.length_take];omega) fun f hf=>gx hn hw (gG hf) t
  rw [ju _ Fw [] hj] at hb ⊢
  rw [qLam,dT (show (j:Int) < (Fw.length:Int) by omega),dT (show (0:Int)≤(j:Int) by omega),up1 (by omega)]
  simp only [cond_true,tN]
  rw [gL _ (by omega),gY]
  simp only [gJ hn hw hm,cond_true,qf,qd]
  have hpe:Int.tdiv 1000000000 (wS ws (Fw.getD j []))=ql ws (Fw.getD j []):=rfl
  rw [hpe,qg (x:=ql ws (Fw.getD j [])) (by omega) (by omega)]
  by_cases c:(t:Int)∈Fw.getD j []
  ·have eo:onS t (ql ws (Fw.getD j [])) (Fw.getD j [])=ql ws (Fw.getD j []):=if_pos c
   rw [eo] at hb
   rw [dT c,eo,cond_true]
   refine (qw (by omega) _ _).trans ?_
   rw [qg (by omega) (by omega)]
  ·have eo:onS t (ql ws (Fw.getD j [])) (Fw.getD j [])=0:=if_neg c
   rw [dF c,eo,Int.add_zero]
   rfl
 ·show Lam (n+1) _ _ _ _ _ _ _ _=_
  rw [qLam,dF (show ¬ (Fw.length:Int) < (Fw.length:Int) by omega),qB]
  rfl
theorem Gu (lim:List Int):v56 Cq Fw lim ws=some (qi ws Fw):=by
 have hlk:=hn.lk
 have hwl:=hw.len
 have h0:LaH FU ws 0 Cq Fw lim []=some (qi ws Fw):=by
  unfold qi
  rw [hwl]
  refine qm (m:=Cq.length) (by omega) (fun n j (s:List Int)=>LaH n ws j Cq Fw lim s) (fun j=>tab j (qe ws Fw)) _ (fun n j hj=>?_) (fun n=>?_)
  ·show LaH (n+1) _ _ _ _ _ _=LaH n _ _ _ _ _ _
   rw [qLaH,dT (show (j:Int) < (Cq.length:Int) by omega),l56_16 hn hw lim _ j,up1 (by omega),ge]
   simp only [cond_true,qf,qd,qp]
   exact qw (show j+1≤2147483648 by omega) _ _
  ·show LaH (n+1) _ _ _ _ _ _=_
   rw [qLaH,dF (show ¬ (Cq.length:Int) < (Cq.length:Int) by omega)]
   rfl
 unfold v56
 rw [h0];rfl
theorem v57_eq (lim:List Int) {f:List Int} (hf:f∈Fw):v57 Cq Fw lim ws (qi ws Fw) f=some (qA Cq ws Fw f):=by
 have hl:=hn.h1 f hf
 have hlw:=hw.len
 have hp:=ja hn hw hf
 have hW:=jR hn hw hf
 have hll:(qi ws Fw).length=ws.length:=qp _ _
 have h0:Lap FU (qi ws Fw) f (ql ws f) (-1) 0 Cq Fw lim=some (qA Cq ws Fw f):=by
  unfold qA
  rw [← gi (qD Cq ws Fw f) (l:=f) (by omega) fun k hk=>(jD hn hw hf hk).1]
  refine qm (m:=f.length) (by omega) (fun n j (s:Int)=>Lap n (qi ws Fw) f (ql ws f) s j Cq Fw lim) (fun j=>(f.take j).foldl (qV (qD Cq ws Fw f)) (-1)) _ (fun n j hj=>?_) (fun n=>?_)
  ·show Lap (n+1) _ _ _ _ _ _ _ _=Lap n _ _ _ _ _ _ _ _
   have hkm:=qM hj (0:Int)
   have hr:=hn.rg f hf _ hkm
   have hb:=jD hn hw hf hkm
   have hlt:(f.getD j 0).toNat < ws.length:=by omega
   have hpos:=jz hn hw (jq hf hkm hr.1)
   have hc:=hn.cp (f.getD j 0).toNat
   have h00:0≤ql ws f*Cq.getD (f.getD j 0).toNat 0:=Int.mul_nonneg (by omega) hc.1
   have h01:ql ws f*Cq.getD (f.getD j 0).toNat 0≤1000000000*1000:=Int.mul_le_mul hp.2 hc.2 hc.1 (by omega)
   rw [qLap,dT (show (j:Int) < (f.length:Int) by omega),dT (show (0:Int)≤(j:Int) by omega),up1 (by omega),jw _ _ f 0 hj]
   simp only [cond_true,tN]
   have eL:(qi ws Fw).getD (f.getD j 0).toNat 0=qe ws Fw (f.getD j 0).toNat:=qC _ hlt
   rw [dT hr.1,dT hr.2,hll,dT (show f.getD j 0 < (ws.length:Int) by omega)]
   simp only [cond_true,eL]
   refine (qw (by omega) _ _).trans ?_
   rw [qg (x:=ql ws f*Cq.getD (f.getD j 0).toNat 0) (by omega) (by omega),qg (x:=ql ws f*Cq.getD (f.getD j 0).toNat 0*1000000) (by omega) (by omega)]
   rw [show IntKind.wrap IntKind.i64 (Int.tdiv (ql ws f*Cq.getD (f.getD j 0).toNat 0*1000000) (qe ws Fw (f.getD j 0).toNat))=qD Cq ws Fw f (f.getD j 0) from qg (x:=qD Cq ws Fw f (f.getD j 0)) (by omega) (by omega)]
   generalize (f.take j).foldl (qV (qD Cq ws Fw f)) (-1)=s
   generalize f.getD j 0=y at*
   unfold qV
   by_cases c1:s < 0
   ·rw [dT c1,if_pos c1];rfl
   ·by_cases c2:qD Cq ws Fw f y < s
    ·rw [dF c1,dT c2,if_neg c1,if_pos c2];rfl
    ·rw [dF c1,dF c2,if_neg c1,if_neg c2];rfl
  ·show Lap (n+1) _ _ _ _ _ _ _ _=_
   rw [qLap,dF (show ¬ (f.length:Int) < (f.length:Int) by omega),qB]
   rfl
 unfold v57 tv57
 simp only [gJ hn hw hf,qf,qd,cond_true]
 refine (qw (by omega) _ _).trans ?_
 have hpe:Int.tdiv 1000000000 (wS ws f)=ql ws f:=rfl
 rw [hpe,qg (x:=ql ws f) (by omega) (by omega),h0]
 rfl
end
def gm (Cq ws:List Int) (Fw:List (List Int)):Cert:=cond (qt Cq ws Fw).2.2.2 (qt Cq ws Fw) ([],[],0,false)
section
variable {Cq : List Int} {Fw : List (List Int)} {ws : List Int} (hn : Nw Cq Fw) (hw : Wt Cq.length Fw ws)
include hn hw
theorem l33_0 (lim a b c:List Int) (d:List (List Int)):Lac FU ws (qi ws Fw) (-1) 0 Cq Fw lim 0 0 d a [] b=some (qn Cq ws Fw,qy Cq ws Fw):=by
 have hf:=hn.nf
 have hf1:=hn.f1
 have e0:qn Cq ws Fw=Fw.foldl (qV (qO Cq ws Fw)) (-1):=(gi (qO Cq ws Fw) (l:=Fw) (by omega) fun f hff=>(j6 hn hw hff).1).symm
 rw [e0]
 refine qm (m:=Fw.length) (by omega) (fun n j (s:Int×List (List Int))=>Lac n ws (qi ws Fw) s.1 j Cq Fw lim 0 0 d a s.2 b) (fun j=>((Fw.take j).foldl (qV (qO Cq ws Fw)) (-1),(Fw.take j).map fun f=>[qA Cq ws Fw f])) _ (fun n j hj=>?_) (fun n=>?_)
 ·show Lac (n+1) _ _ _ _ _ _ _ _ _ _ _ _ _=Lac n _ _ _ _ _ _ _ _ _ _ _ _ _
  have hm:=jv Fw hj
  have hb:=j6 hn hw hm
  have e:List.map (fun f=>[qA Cq ws Fw f]) (Fw.take (j+1))=List.map (fun f=>[qA Cq ws Fw f]) (Fw.take j)++[[qA Cq ws Fw (Fw.getD j [])]]:=by rw [qJ Fw [] hj,List.map_append];rfl
  rw [qLac,dT (show (j:Int) < (Fw.length:Int) by omega),dT (show (0:Int)≤(j:Int) by omega),up1 (by omega),jw _ _ Fw [] hj,e]
  simp only [cond_true,tN]
  simp only [v57_eq hn hw lim hm,gJ hn hw hm,qf,qd,cond_true]
  refine (qw (by simp only [List.length_map,List.length_take,List.length_singleton];show _≤2147483648;omega) _ _).trans ?_
  rw [show IntKind.wrap IntKind.i64 (wS ws (Fw.getD j [])*qA Cq ws Fw (Fw.getD j []))=qO Cq ws Fw (Fw.getD j []) from qg (x:=qO Cq ws Fw (Fw.getD j [])) (by omega) (by omega)]
  generalize (Fw.take j).foldl (qV (qO Cq ws Fw)) (-1)=s
  unfold qV
  by_cases c1:s < 0
  ·rw [dT c1,if_pos c1];rfl
  ·by_cases c2:qO Cq ws Fw (Fw.getD j []) < s
   ·rw [dF c1,dT c2,if_neg c1,if_pos c2];rfl
   ·rw [dF c1,dF c2,if_neg c1,if_neg c2];rfl
 ·show Lac (n+1) _ _ _ _ _ _ _ _ _ _ _ _ _=_
  rw [qLac,dF (show ¬ (Fw.length:Int) < (Fw.length:Int) by omega),qB]
  rfl
theorem l33_16 (lim a b:List Int) (d rs:List (List Int)) (hp:qn Cq ws Fw≠0):Lay FU ws (qn Cq ws Fw) 0 Cq Fw lim 0 0 d a rs []=some (qo Cq ws Fw):=by
 have hl:=hw.len
 have hlk:=hn.lk
 have hb:=jY hn hw
 refine qm (m:=ws.length) (by omega) (fun n j (s:List Int)=>Lay n ws (qn Cq ws Fw) j Cq Fw lim 0 0 d a rs s) (fun j=>(ws.take j).map (qH (qn Cq ws Fw))) _ (fun n j hj=>?_) (fun n=>?_)
 ·show Lay (n+1) _ _ _ _ _ _ _ _ _ _ _ _=Lay n _ _ _ _ _ _ _ _ _ _ _ _
  have hwb:=hw.bd j
  rw [qLay,dT (show (j:Int) < (Cq.length:Int) by omega),dT (show (0:Int)≤(j:Int) by omega),dT (show (j:Int) < (ws.length:Int) by omega),up1 (by omega)]
  simp only [cond_true,tN]
  refine (qw hp _ _).trans ?_
  refine (qw (by simp only [List.length_map,List.length_take,List.length_singleton];show _≤2147483648;omega) _ _).trans ?_
  have hq:0≤qH (qn Cq ws Fw) (ws.getD j 0)∧qH (qn Cq ws Fw) (ws.getD j 0)≤100000000000000000+600000000000000:=by
   unfold qH
   rw [Int.tdiv_eq_ediv_of_nonneg (by omega)]
   exact ⟨Int.ediv_nonneg (by omega) (by omega),Int.le_trans (Int.ediv_le_self _ (by omega)) (by omega)⟩
  rw [qJ ws 0 hj,List.map_append,qg (x:=ws.getD j 0*1000000000000) (by omega) (by omega),qg (x:=ws.getD j 0*1000000000000+qn Cq ws Fw) (by omega) (by omega),qg (x:=ws.getD j 0*1000000000000+qn Cq ws Fw - 1) (by omega) (by omega)]
  show Lay n _ _ _ _ _ _ _ _ _ _ _ (_++[IntKind.wrap IntKind.i64 (qH (qn Cq ws Fw) (ws.getD j 0))])=_
  rw [qg (by omega) (by omega)]
  rfl
 ·show Lay (n+1) _ _ _ _ _ _ _ _ _ _ _ _=_
  rw [qLay,dF (show ¬ (ws.length:Int) < (Cq.length:Int) by omega),qB]
  rfl
theorem Gm (lim:List Int) (h20:Fw.length≤20):v33 Cq Fw lim ws=some (gm Cq ws Fw):=by
 have hl:=hw.len
 have hlk:=hn.lk
 unfold v33 tv33 gm
 rw [Gu hn hw lim]
 simp only [qf,qd,cond_true]
 rw [l33_0 hn hw lim [] [] [] []]
 simp only [qf,qd,cond_true]
 by_cases hp:qn Cq ws Fw=0
 ·have e:qt Cq ws Fw=([],[],0,false):=by unfold qt;rw [if_pos hp]
  rw [hp,e];rfl
 ·rw [show (qn Cq ws Fw==0)=false by simp [hp],l33_16 hn hw lim [] [] [] _ hp,Gn Cq lim h20]
  simp only [qf,qd,cond_true,cond_false]
  rw [v59_eq (gC hn hw _ (by unfold qo;rw [List.length_map];omega))]
  simp only [qf,qd,cond_true]
  have e:qt Cq ws Fw=(qy Cq ws Fw,qo Cq ws Fw,(qX Cq (qr Fw) (qy Cq ws Fw) (qo Cq ws Fw)).1,decide ((qX Cq (qr Fw) (qy Cq ws Fw) (qo Cq ws Fw)).2=0)):=by unfold qt;rw [if_neg hp]
  rw [e]
  by_cases c:(qX Cq (qr Fw) (qy Cq ws Fw) (qo Cq ws Fw)).2=0
  ·rw [dT c,show ((qX Cq (qr Fw) (qy Cq ws Fw) (qo Cq ws Fw)).2 != 0)=false by simp [c]]
   rfl
  ·rw [dF c,show ((qX Cq (qr Fw) (qy Cq ws Fw) (qo Cq ws Fw)).2 != 0)=true by simpa using c]
   rfl
end
section
variable {Cq : List Int} {Fw : List (List Int)} {ws : List Int} (hn : Nw Cq Fw) (hw : Wt Cq.length Fw ws) (hf : Fit Cq Fw)
include hn hw hf
theorem l34_0 (lim:List Int):Lad FU ws (qi ws Fw) (-1) 0 Cq Fw lim=some (mS Cq Fw ws:Int):=by
 have hl:=hw.len
 have hlk:=hn.lk
 have hm:=j9 hn hw hf
 have hld:(qi ws Fw).length=ws.length:=qp _ _
 refine qm (m:=ws.length) (by omega) (fun n j (s:Int)=>Lad n ws (qi ws Fw) s j Cq Fw lim) (ji Cq Fw ws) _ (fun n j hj=>?_) (fun n=>?_)
 ·show Lad (n+1) _ _ _ _ _ _ _=Lad n _ _ _ _ _ _ _
  have e:ji Cq Fw ws (j+1)=jQ Cq Fw ws (ji Cq Fw ws j) j:=rfl
  have hu:=gd hn hw (t:=j)
  have hLj:(qi ws Fw).getD j 0=qe ws Fw j:=qC _ hj
  rw [qLad,dT (show (j:Int) < (Cq.length:Int) by omega),dT (show (0:Int)≤(j:Int) by omega),dT (show (j:Int) < (ws.length:Int) by omega),up1 (by omega)]
  simp only [cond_true,tN,hLj,hld]
  rw [e]
  unfold jQ
  by_cases c:ws.getD j 0 > 0
  ·rw [if_pos c,dT c]
   rcases jG hn hw hf j with ⟨h1,h2⟩ | ⟨m,h1,h2,h3,h4⟩
   ·rw [h1];rfl
   ·have hb1:=jf hn hw j
    have hb2:=jf hn hw m
    have hc1:=hn.cp j
    have hc2:=hn.cp m
    have hLm:(qi ws Fw).getD m 0=qe ws Fw m:=qC _ (by omega)
    have a1:0≤qe ws Fw j*Cq.getD m 0:=Int.mul_nonneg hb1.1 hc2.1
    have a2:qe ws Fw j*Cq.getD m 0≤8000000000*1000:=Int.mul_le_mul hb1.2 hc2.2 hc2.1 (by omega)
    have a3:0≤qe ws Fw m*Cq.getD j 0:=Int.mul_nonneg hb2.1 hc1.1
    have a4:qe ws Fw m*Cq.getD j 0≤8000000000*1000:=Int.mul_le_mul hb2.2 hc1.2 hc1.1 (by omega)
    rw [h1,if_neg (show ¬ (m:Int) < 0 by omega),dF (show ¬ (m:Int) < 0 by omega),dT (show (0:Int)≤(m:Int) by omega),dT (show (j:Int) < (ws.length:Int) by omega),dT (show (m:Int) < (Cq.length:Int) by omega),dT (show (m:Int) < (ws.length:Int) by omega)]
    simp only [cond_true,cond_false,tN,hLm]
    rw [qg (by omega) (by omega),qg (by omega) (by omega)]
    by_cases c2:qe ws Fw j*Cq.getD m 0 > qe ws Fw m*Cq.getD j 0
    ·rw [if_pos c2,dT c2];rfl
    ·rw [if_neg c2,dF c2];rfl
  ·rw [if_neg c,dF c];rfl
 ·show Lad (n+1) _ _ _ _ _ _ _=_
  rw [qLad,dF (show ¬ (ws.length:Int) < (Cq.length:Int) by omega),hl,hm.1]
  rfl
def jn (Cq:List Int) (Fw:List (List Int)) (ws:List Int) (j:Nat):Bool:=(List.range j).all fun t=>decide (qs Cq Fw ws t < 50000)
omit hn hw hf in
theorem gM (j:Nat):jn Cq Fw ws (j+1)=(jn Cq Fw ws j&&decide (qs Cq Fw ws j < 50000)):=by
 unfold jn;rw [List.range_succ,List.all_append];simp
theorem l34_16 (lim:List Int):Lae FU ws (qi ws Fw) (mS Cq Fw ws:Int) true 0 Cq Fw lim []=some (jn Cq Fw ws ws.length,qu Cq Fw ws):=by
 have hl:=hw.len
 have hlk:=hn.lk
 have hms:=j9 hn hw hf
 have hld:(qi ws Fw).length=ws.length:=qp _ _
 have hLm:(qi ws Fw).getD (mS Cq Fw ws) 0=qe ws Fw (mS Cq Fw ws):=qC _ (by omega)
 refine qm (m:=ws.length) (by omega) (fun n j (s:Bool×List Int)=>Lae n ws (qi ws Fw) (mS Cq Fw ws:Int) s.1 j Cq Fw lim s.2) (fun j=>(jn Cq Fw ws j,tab j (qs Cq Fw ws))) _ (fun n j hj=>?_) (fun n=>?_)
 ·show Lae (n+1) _ _ _ _ _ _ _ _ _=Lae n _ _ _ _ _ _ _ _ _
  have hLj:(qi ws Fw).getD j 0=qe ws Fw j:=qC _ hj
  rw [qLae,dT (show (j:Int) < (Cq.length:Int) by omega),dT (show (0:Int)≤(j:Int) by omega),dT (show (j:Int) < (ws.length:Int) by omega),up1 (by omega),ge,gM]
  simp only [cond_true,tN,hLj,hld,hLm,qp]
  have hnx:qs Cq Fw ws j=if ws.getD j 0=0 then 0 else max 1 (qW Cq Fw ws j):=rfl
  by_cases c:ws.getD j 0=0
  ·rw [hnx,if_pos c,dF (show ¬ ws.getD j 0 > 0 by omega),dT (show (0:Int) < 50000 by omega),Bool.and_true]
   cases jn Cq Fw ws j with
   | true=>exact qw (show j+1≤2147483648 by omega) _ _
   | false=>exact qw (show j+1≤2147483648 by omega) _ _
  ·have hwj:=hw.bd j
   have c2:qU Fw j:=(hw.us j).1 (by omega)
   have hc2:=hn.cp j
   obtain ⟨q1,q2,q3,q4,q5,q6,q7,q8⟩:=gp hn hw hf c2
   have hb4:2*Cq.getD j 0*qe ws Fw (mS Cq Fw ws)=2*(Cq.getD j 0*qe ws Fw (mS Cq Fw ws)):=Int.mul_assoc _ _ _
   have w1:=qg (x:=2*Cq.getD j 0) (by omega) (by omega)
   have w2:=qg (x:=2*Cq.getD j 0*qe ws Fw (mS Cq Fw ws)) (by omega) (by omega)
   have w3:=qg (x:=qe ws Fw j*Cq.getD (mS Cq Fw ws) 0) (by omega) (by omega)
   have w4:=qg (x:=Cq.getD j 0*qe ws Fw (mS Cq Fw ws)) (by omega) (by omega)
   have w5:=qg (x:=qe ws Fw j*Cq.getD (mS Cq Fw ws) 0+Cq.getD j 0*qe ws Fw (mS Cq Fw ws)) (by omega) (by omega)
   have w6:=qg (x:=ws.getD j 0*(qe ws Fw j*Cq.getD (mS Cq Fw ws) 0+Cq.getD j 0*qe ws Fw (mS Cq Fw ws))) (by omega) (by omega)
   have w7:IntKind.wrap IntKind.i64 (Int.tdiv (ws.getD j 0*(qe ws Fw j*Cq.getD (mS Cq Fw ws) 0+Cq.getD j 0*qe ws Fw (mS Cq Fw ws))) (2*Cq.getD j 0*qe ws Fw (mS Cq Fw ws)))=qW Cq Fw ws j:=qg (x:=qW Cq Fw ws j) (by omega) (by omega)
   have hnx2:qs Cq Fw ws j=max 1 (qW Cq Fw ws j):=by rw [hnx,if_neg c]
   rw [dT (show ws.getD j 0 > 0 by omega),dT (show (j:Int) < (ws.length:Int) by omega),dT (show (0:Int)≤(mS Cq Fw ws:Int) by omega),dT (show (mS Cq Fw ws:Int) < (Cq.length:Int) by omega),dT (show (mS Cq Fw ws:Int) < (ws.length:Int) by omega)]
   simp only [cond_true,w1,w2,w3,w4,w5,w6,w7]
   refine (qw (by omega) _ _).trans ?_
   rw [hnx2]
   cases jn Cq Fw ws j with
   | true=>rw [cond_true,Bool.true_and];exact qw (show j+1≤2147483648 by omega) _ _
   | false=>rw [cond_false,Bool.false_and];exact qw (show j+1≤2147483648 by omega) _ _
 ·show Lae (n+1) _ _ _ _ _ _ _ _ _=_
  rw [qLae,dF (show ¬ (ws.length:Int) < (Cq.length:Int) by omega)]
  rfl
theorem l34_32:Lao FU true 0 (qu Cq Fw ws)=some (dbl (qu Cq Fw ws)):=by
 have hl:=hw.len
 have hlk:=hn.lk
 have hll:(qu Cq Fw ws).length=ws.length:=qp _ _
 have e0:qu Cq Fw ws=tab ws.length fun t=>if t < 0 then qs Cq Fw ws t*2 else qs Cq Fw ws t:=qq fun t _=>by rw [if_neg (by omega)]
 have e1:dbl (qu Cq Fw ws)=tab ws.length fun t=>qs Cq Fw ws t*2:=by
  unfold dbl
  rw [hll]
  exact qq fun t ht=>by rw [jk hn hw hf]
 rw [e1]
 conv=>lhs;arg 4;rw [e0]
 refine qm (m:=ws.length) (by omega) (fun n j (s:List Int)=>Lao n true j s) (fun j=>tab ws.length fun t=>if t < j then qs Cq Fw ws t*2 else qs Cq Fw ws t) _ (fun n j hj=>?_) (fun n=>?_)
 ·show Lao (n+1) _ _ _=Lao n _ _ _
  have hb:=jr hn hw hf j
  rw [qLao,qp,dT (show (j:Int) < (ws.length:Int) by omega),dT (show (0:Int)≤(j:Int) by omega),up1 (by omega)]
  simp only [cond_true,tN]
  rw [dT hj,qC _ hj,if_neg (show ¬ j < j by omega),qg (by omega) (by omega),jp,cond_true]
  have et:(tab ws.length fun k=>if k=j then 2*qs Cq Fw ws j else if k < j then qs Cq Fw ws k*2 else qs Cq Fw ws k)=tab ws.length fun t=>if t < j+1 then qs Cq Fw ws t*2 else qs Cq Fw ws t:=by
   refine qq fun t _=>?_
   by_cases c2:t=j
   ·rw [if_pos c2,c2,if_pos (by omega)];omega
   ·rw [if_neg c2]
    by_cases c3:t < j
    ·rw [if_pos c3,if_pos (by omega)]
    ·rw [if_neg c3,if_neg (by omega)]
  rw [et]
 ·show Lao (n+1) _ _ _=_
  rw [qLao,qp,dF (show ¬ (ws.length:Int) < (ws.length:Int) by omega),cond_false]
  exact congrArg some (qq fun t ht=>if_pos ht)
theorem Gq:jn Cq Fw ws ws.length=decide (maxL (qu Cq Fw ws) < 50000):=by
 have hll:(qu Cq Fw ws).length=ws.length:=qp _ _
 have hpos:0 < ws.length:=by have:=(j9 hn hw hf).2.1;have:=hw.len;omega
 rw [Bool.eq_iff_iff,decide_eq_true_iff]
 unfold jn
 rw [List.all_eq_true]
 constructor
 ·intro h
  have key:∀ (l:List Int) (o:Int),o < 50000→(∀ x∈l,x < 50000)→l.foldl max o < 50000:=by
   intro l
   induction l with
   | nil=>intro o ho _;exact ho
   | cons b l ih=>
    intro o ho hx
    have:=hx b List.mem_cons_self
    exact ih _ (by omega) fun x hm=>hx x (List.mem_cons_of_mem _ hm)
  have hall:∀ x∈qu Cq Fw ws,x < 50000:=by
   intro x hx
   unfold qu tab at hx
   obtain ⟨t,ht,rfl⟩:=List.mem_map.1 hx
   simpa using h t ht
  cases hx:qu Cq Fw ws with
  | nil=>rw [hx] at hll;simp at hll;omega
  | cons a l=>
   rw [hx] at hall
   exact key l a (hall a List.mem_cons_self) fun x hm=>hall x (List.mem_cons_of_mem _ hm)
 ·intro h t ht
  have ht:=List.mem_range.1 ht
  have:qs Cq Fw ws t∈qu Cq Fw ws:=by unfold qu tab;exact List.mem_map.2 ⟨t,List.mem_range.2 ht,rfl⟩
  have:=gT this
  rw [dT];omega
theorem v34_eq (lim:List Int):v34 Cq Fw lim ws=some (jt Cq Fw ws):=by
 have hll:(qu Cq Fw ws).length=ws.length:=qp _ _
 unfold v34 tv34
 rw [Gu hn hw lim]
 simp only [qf,qd,cond_true,l34_0 hn hw hf lim,l34_16 hn hw hf lim]
 rw [Gq hn hw hf]
 unfold jt
 by_cases c:maxL (qu Cq Fw ws) < 50000
 ·rw [dT c,if_pos c,l34_32 hn hw hf];rfl
 ·have e:Lao FU false 0 (qu Cq Fw ws)=some (qu Cq Fw ws):=by
   refine qm (m:=0) (by omega) (fun n j (s:Unit)=>Lao n false j (qu Cq Fw ws)) (fun j=>()) _ (fun n j hj=>by omega) (fun n=>?_)
   show Lao (n+1) _ _ _=_
   rw [qLao]
   cases decide (((0:Nat):Int) < ((qu Cq Fw ws).length:Int))<;>rfl
  rw [dF c,if_neg c,e];rfl
end
theorem Gh {a b:List Int} (hl:a.length≤9223372036854775807):v20 a b=some (decide (a=b)):=by
 unfold v20 tv20
 rw [js]
 by_cases c:a.length=b.length
 case neg=>rw [dF c,dF (fun e=>c (by rw [e]))];rfl
 rw [dT c]
 have h0:=qG (m:=a.length) (by omega) (fun n j=>LaT n a b j) (fun j=>a.getD j 0==b.getD j 0) (fun n i hi=>by
  show LaT (n+1) _ _ _=_
  rw [qLaT,dT (show (i:Int) < (a.length:Int) by omega),dT (show (0:Int)≤(i:Int) by omega),dT (show (i:Int) < (b.length:Int) by omega),up1 (by omega)]
  simp only [cond_true,tN]
  exact qK _ _ _) fun n=>by
  show LaT (n+1) _ _ _=_
  rw [qLaT,dF (show ¬ (a.length:Int) < (a.length:Int) by omega)]
  rfl
 have h0:LaT FU a b 0=_:=h0
 rw [h0]
 have h1:((List.range a.length).all fun j=>a.getD j 0==b.getD j 0)=decide (a=b):=by
  rw [Bool.eq_iff_iff,List.all_eq_true,decide_eq_true_iff]
  constructor
  ·intro h
   refine List.ext_getElem c fun i hi1 hi2=>?_
   have:=h i (List.mem_range.2 hi1)
   rw [List.getD_eq_getElem?_getD,List.getD_eq_getElem?_getD,List.getElem?_eq_getElem hi1,List.getElem?_eq_getElem hi2] at this
   simpa using this
  ·intro h i _;rw [h];simp
 rw [h1]
 cases decide (a=b)<;>rfl
theorem GB (Cq ws:List Int) {Fw:List (List Int)}:(qy Cq ws Fw).length=Fw.length:=List.length_map _
theorem gy {r:List (List Int)} {p:List Int} (g:Int) (hr:r.length≤20) (hi:∀ i,(r.getD i []).length≤20) (hp:p.length≤21):v15 r p g r p g=some true:=by
 have h0:LaI FU 0 r p g r p g=some (.inr ()):=by
  refine qm (m:=r.length) (by omega) (fun n j (s:Unit)=>LaI n j r p g r p g) (fun j=>()) _ (fun n i h=>?_) (fun n=>?_)
  ·show LaI (n+1) _ _ _ _ _ _ _=LaI n _ _ _ _ _ _ _
   rw [qLaI,dT (show (i:Int) < (r.length:Int) by omega),dT (show (0:Int)≤(i:Int) by omega),up1 (by omega),tN,Gh (by have:=hi i;omega),dT rfl]
   rfl
  ·show LaI (n+1) _ _ _ _ _ _ _=_
   rw [qLaI,dF (show ¬ (r.length:Int) < (r.length:Int) by omega)]
   rfl
 unfold v15 tv15
 rw [h0,Gh (by omega),dT rfl]
 simp
theorem Gt (Cq ws:List Int) {Fw:List (List Int)} (i:Nat):((qy Cq ws Fw).getD i []).length≤20:=by
 unfold qy
 rw [qS _ Fw [] []]
 split<;>simp
section
variable {Cq : List Int} {Fw : List (List Int)} (hn : Nw Cq Fw) (hf : Fit Cq Fw)
include hn hf
theorem l14_16 (lim a b:List Int) (d:List (List Int)) {r:Nat} (hr:r≤1000):Lah FU (r:Int) (wsN Cq Fw 0) 0 Cq Fw lim 0 (qv Cq Fw 0).1 (qv Cq Fw 0).2.1 (qv Cq Fw 0).2.2 d a=some (qv Cq Fw r):=by
 have h20:Fw.length≤20:=by have:=hn.nf;omega
 refine qm (m:=r) (by omega) (fun n j (s:Best×List Int)=>Lah n (r:Int) s.2 j Cq Fw lim 0 s.1.1 s.1.2.1 s.1.2.2 d a) (fun j=>(qv Cq Fw j,wsN Cq Fw j)) _ (fun n j hj=>?_) (fun n=>?_)
 ·show Lah (n+1) _ _ _ _ _ _ _ _ _ _ _ _=Lah n _ _ _ _ _ _ _ _ _ _ _ _
  have e1:qv Cq Fw (j+1)=jo (qv Cq Fw j) (qt Cq (wsN Cq Fw (j+1)) Fw):=rfl
  have e2:wsN Cq Fw (j+1)=jt Cq Fw (wsN Cq Fw j):=rfl
  rw [qLah,dT (show (j:Int) < (r:Int) by omega),up1 (by omega)]
  simp only [v34_eq hn (jK hn hf j) hf lim,qf,qd,cond_true]
  rw [← e2]
  simp only [Gm hn (jK hn hf (j+1)) lim h20,qf,qd,cond_true]
  rw [e1]
  unfold gm jo
  cases hx:(qt Cq (wsN Cq Fw (j+1)) Fw).2.2.2 with
  | false=>rfl
  | true=>
   simp only [cond_true]
   rw [hx]
   by_cases c:(qt Cq (wsN Cq Fw (j+1)) Fw).2.2.1 < (qv Cq Fw j).2.2
   ·rw [if_pos c,dT c];rfl
   ·rw [if_neg c,dF c];rfl
 ·show Lah (n+1) _ _ _ _ _ _ _ _ _ _ _ _=_
  rw [qLah,dF (show ¬ (r:Int) < (r:Int) by omega)]
  rfl
end
theorem l14_0 {Cq:List Int} {Fw:List (List Int)} (hn:Nw Cq Fw) (lim:List Int) (r:Int) (a:List Int) (d:List (List Int)):Lat FU r 0 Cq Fw lim 0 d a=some (cond (jb Cq Fw) (.inr ()) (.inl (4,0))):=by
 have hlk:=hn.lk
 have h20:Fw.length≤20:=by have:=hn.nf;omega
 have h6:∀ f∈Fw,f.length≤20:=fun f hf=>by have:=hn.h1 f hf;omega
 have key:∀ (k n i:Nat),i+k=Cq.length→k < n→Lat n r (i:Int) Cq Fw lim 0 d a=some (cond ((List.range' i k).all fun t=>!qE Fw t||!(Cq.getD t 0==0)) (.inr ()) (.inl (4,0))):=by
  intro k
  induction k with
  | zero=>
   intro n i e1 e2
   cases n with
   | zero=>omega
   | succ n=>
    rw [qLat,dF (show ¬ (i:Int) < (Cq.length:Int) by omega)]
    rfl
  | succ k ih=>
   intro n i e1 e2
   cases n with
   | zero=>omega
   | succ n=>
    rw [qLat,dT (show (i:Int) < (Cq.length:Int) by omega),Gs Cq lim h20 h6 i,dT (show (0:Int)≤(i:Int) by omega),up1 (by omega),List.range'_succ,List.all_cons]
    simp only [cond_true,qf,qd,tN]
    rw [ih n (i+1) (by omega) (by omega)]
    cases qE Fw i with
    | false=>rfl
    | true=>
     cases (Cq.getD i 0==0) with
     | true=>rfl
     | false=>rfl
 have h:=key Cq.length FU 0 (by omega) (by unfold FU;omega)
 have h:Lat FU r 0 Cq Fw lim 0 d a=_:=h
 rw [h]
 have e:((List.range' 0 Cq.length).all fun t=>!qE Fw t||!(Cq.getD t 0==0))=jb Cq Fw:=by
  rw [Bool.eq_iff_iff,jS hn,List.all_eq_true]
  constructor
  ·intro hh t ht
   have hlt:=j7 hn ht
   have:=hh t (by rw [← List.range_eq_range'];exact List.mem_range.2 hlt)
   rw [used_iff.2 ht] at this
   have hc:=(hn.cp t).1
   have hne:Cq.getD t 0≠0:=fun e0=>by rw [e0] at this;simp at this
   omega
  ·intro hh t ht
   by_cases c:qU Fw t
   ·have:=hh t c
    rw [show (Cq.getD t 0==0)=false from beq_false_of_ne (by omega)];simp
   ·rw [show qE Fw t=false by cases hu:qE Fw t with
     | false=>rfl
     | true=>exact absurd (used_iff.1 hu) c];rfl
 rw [e]
theorem v14_eq {Cq:List Int} {Fw:List (List Int)} {lim:List Int} (r:Int) (h:jX Cq Fw lim=true):v14 Cq Fw lim r=some (qL Cq Fw lim r):=by
 obtain ⟨h1,h2,h3,h4⟩:=jP h
 unfold v14 tv14 qL askS
 rw [v30_eq h]
 simp only [qf,qd,cond_true,qK]
 cases hv:qI Cq (qr Fw) with
 | false=>rfl
 | true=>
  have hn:=nw_of hv
  cases decide (lim.length=Fw.length) with
  | false=>rfl
  | true=>
   cases (lim.any fun x=>x != 0) with
   | true=>rfl
   | false=>
    by_cases c2:0≤r
    case neg=>rw [dF c2,dT (show r < 0 by omega)];rfl
    rw [dT c2,dF (show ¬ r < 0 by omega)]
    by_cases c3:r≤1000
    case neg=>rw [dF c3,dT (show r > 1000 by omega)];rfl
    rw [dT c3,dF (show ¬ r > 1000 by omega)]
    simp only [cond_true,cond_false,Bool.not_false,Bool.and_self,l14_0 hn lim r [] []]
    cases hfi:jb Cq Fw with
    | false=>rfl
    | true=>
     have hf:=(jS hn).1 hfi
     have hs:=gH hn hf hv
     have er:r=((r.toNat:Nat):Int):=by omega
     have e14:=l14_16 hn hf lim [] [] [] (r:=r.toNat) (by omega)
     rw [← er] at e14
     have ec:gm Cq (qh Cq.length Fw) Fw=qt Cq (qh Cq.length Fw) Fw:=by unfold gm;rw [hs.1];rfl
     simp only [cond_true,jH,jA,cond_false,qf,qd]
     rw [v32_eq Cq lim h2 h4 h1]
     simp only [cond_true,qf,qd]
     rw [Gm hn (jg hn) lim h2,ec]
     simp only [cond_true,qf,qd]
     rw [show Lah FU r (qh Cq.length Fw) 0 Cq Fw lim 0 (qt Cq (qh Cq.length Fw) Fw).1 (qt Cq (qh Cq.length Fw) Fw).2.1 (qt Cq (qh Cq.length Fw) Fw).2.2.1 [] []=some (qv Cq Fw r.toNat) from e14]
     rfl
theorem v3_true {Cq:List Int} {Fw:List (List Int)} {lim:List Int} {x3:Int} (hl:Len Fw):v3 Cq Fw lim x3=some true:=by
 have hv:v11=some true:=rfl
 unfold v3 tv3
 rw [v12_eq hl]
 simp only [qf,qd,cond_true,qK,hv]
 cases h:jX Cq Fw lim with
 | false=>rfl
 | true=>
  simp only [cond_true]
  obtain ⟨h1,h2,h3,h4⟩:=jP h
  have hL:Lbr x3 true Cq Fw lim=some true:=by
   unfold Lbr
   rw [GE x3 h,v14_eq x3 h]
   simp only [qf,qd,cond_true]
   have hsame:v15 (qL Cq Fw lim x3).1 (qL Cq Fw lim x3).2.1 (qL Cq Fw lim x3).2.2.1 (qL Cq Fw lim x3).1 (qL Cq Fw lim x3).2.1 (qL Cq Fw lim x3).2.2.1=some true:=by
    by_cases c:(qL Cq Fw lim x3).2.2.2=0
    ·obtain ⟨s1,s2,hva,hn,hf,s5⟩:=GI c
     obtain ⟨ws,hw,_,hb1,hb2,_⟩:=gR hn hf hva x3.toNat
     have hpr:(qv Cq Fw x3.toNat).2.1.length≤21:=by
      rw [hb2];unfold qo;rw [List.length_map,hw.len];omega
     rw [s5]
     exact gy _ (by show (qv Cq Fw x3.toNat).1.length≤20;rw [hb1,GB];exact h2) (fun i=>by show ((qv Cq Fw x3.toNat).1.getD i []).length≤20;rw [hb1];exact Gt Cq ws i) hpr
    ·have s6:(qL Cq Fw lim x3).1=[]∧(qL Cq Fw lim x3).2.1=[]:=by
      unfold qL at c ⊢
      cases h1:askS Cq Fw lim x3 with
      | false=>simp
      | true=>
       cases h2:jb Cq Fw with
       | false=>simp
       | true=>rw [h1,h2] at c;exact absurd rfl c
     rw [s6.1,s6.2]
     exact gy _ (by simp) (by simp) (by simp)
   rw [hsame]
   simp
  rw [hL]
  cases decide (x3 > 30)<;>cases decide (x3≤1000)<;>rfl
end Go.Proofs.Ytgmebdomopdgmaa
set_option maxRecDepth 100000
namespace Go.Proofs.Ytgmebdomopdgmaa
open Go Go.ChangeShapes Go.WideShapes Go.ChangeAt Go.RowKit Go.AM Go.TM
theorem own0:ownKnob Try.prog.godebug=none:=by kernel_rfl
theorem laid0:laidOutB Try.prog=true:=by kernel_rfl
abbrev taus:List Ty:=[.pair (.list 3 (.int .i64)) (.pair (.list 22 (.list 3 (.int .i64))) (.list 3 (.int .i64))),.int .i64]
theorem args0 (x:(List Int×List (List Int)×List Int)×Int×Unit):WT Try.prog Try.f3.params.toList taus x=[.agg [.d 3 (.int .i64) x.1.1,.d 22 (.list 3 (.int .i64)) x.1.2.1,.d 3 (.int .i64) x.1.2.2],.sc (.int .i64 x.2.1)]:=by
 kernel_rfl
theorem law_run:∀ x:Tup taus,QG taus x→∃ k H',TM.evF Try.prog (ze base o152 t152) dOk k 3 (WT Try.prog Try.f3.params.toList taus x) []=some ([.sc (.bool true)],H'):=by
 intro x hx
 have e:=args0 x
 rw [e]
 refine ⟨41,[],?_⟩
 rw [zu (by kernel_rfl),ev3,v3_true (show Len (show List (List Int) from x.1.2.1) from (hx.1).2.1.1)]
 rfl
theorem Gb (os:Os) (started:os.Started) (H:Type) (enc:TypeId×Value→H) :
  ReturnsInHanded {} Try.checked os 3 .any (Rows.fairMatchesReferenceSpec.pre6 enc Try.prog Try.f3 Rows.fairMatchesReferenceRow.domain false) (Rows.fairMatchesReferenceSpec.post enc Try.prog Try.f3 false true false false):=
 law_tm (C:=Try.checked) (τs:=taus) (tb:=4) (base:=base) (O:=o152) (T:=t152) own0 started (by kernel_rfl) Try.func3
  (ChangeSpec.witness6 (enc:=enc) (C:=Try.checked) false ⟨#[],#[.agg #[.slice none 0 0,.slice none 0 0,.slice none 0 0],.int .i64 0],[]⟩ 8 (by kernel_rfl) (by kernel_rfl) (by kernel_rfl) (by kernel_rfl))
  laid0 (by kernel_rfl) (by kernel_rfl) rfl (by kernel_rfl) names mixed ok152 (by kernel_rfl) (by kernel_rfl)
  (fun ds h=>by
   match ds,h with
   | [_,_],_=>rfl)
  law_run
theorem fairMatchesReference_holds:Rows.FairMatchesReferenceSaid:=
 OpenClaim.holds_of_wide 3 Try.f3 rfl rfl rfl rfl rfl rfl rfl ⟨rfl,rfl,rfl,rfl,rfl⟩ rfl rfl rfl rfl rfl (by kernel_rfl) Try.func3 (by kernel_rfl)
  (of_decide_eq_true (by kernel_rfl)) (by unfold Func.isWrapper;first | (rw [if_pos (by decide +kernel)];kernel_rfl) | (rw [if_neg (by decide +kernel)];exact ⟨rfl,rfl⟩))
  (fun os started H enc _=>Gb os started H enc)
end Go.Proofs.Ytgmebdomopdgmaa
