/- The typed machine: a state is taken apart by a sample of its own. -/
import Derived.Test.YtpfphfobneehmaaB7
set_option linter.all false
namespace Go.TM
open Go Go.AM
noncomputable section
structure Mt (α:Type) where
 F:Type→Type
 E:Type
 app:(R:Type)→F R→E→R
 fill:E→α
 get:α→Option E
 ok:∀ v e,get v=some e→v=fill e
def mK {α:Type} (a:α) (b:α→Bool) (h:∀ v,b v=true→v=a):Mt α:=
 ⟨fun R=>R,Unit,fun _ f _=>f,fun _=>a,fun v=>cond (b v) (some ()) none,fun v e g=>by
  cases hb:b v with
  | true=>exact h v hb
  | false=>rw [hb] at g;cases g⟩
def mNo {α:Type} (a:α):Mt α:=⟨fun R=>R,Unit,fun _ f _=>f,fun _=>a,fun _=>none,fun _ _ g=>nomatch g⟩
def Un {α β:Type} (M:Mt α) (f:α→β) (g:β→Option α) (h:∀ b a,g b=some a→b=f a):Mt β:=
 ⟨M.F,M.E,M.app,fun e=>f (M.fill e),fun v=>(g v).bind M.get,fun v e q=>by
  cases hg:g v with
  | none=>rw [hg] at q;cases q
  | some a=>rw [hg] at q;rw [h v a hg,M.ok a e q]⟩
def mH {α β:Type} (f:α→β) (g:β→Option α) (h:∀ b a,g b=some a→b=f a):Mt β:=
 ⟨fun R=>α→R,α,fun _ k e=>k e,f,g,h⟩
def mCons {α:Type} (A:Mt α) (B:Mt (List α)):Mt (List α):=
 ⟨fun R=>A.F (B.F R),A.E×B.E,fun R f e=>B.app R (A.app _ f e.1) e.2,fun e=>A.fill e.1::B.fill e.2,
  fun v=>match v with | []=>none | x::r=>(A.get x).bind fun a=>(B.get r).bind fun b=>some (a,b),fun v e q=>by
   cases v with
   | nil=>cases q
   | cons x r=>
    cases h1:A.get x with
    | none=>simp [h1] at q
    | some a=>
     cases h2:B.get r with
     | none=>simp [h1,h2] at q
     | some b=>
      simp [h1,h2] at q
      subst q
      rw [A.ok x a h1,B.ok r b h2]⟩
def mLs {α:Type} (m:α→Mt α):List α→Mt (List α)
 | []=>mK [] (fun l=>match l with | []=>true | _=>false) (fun v h=>by cases v with | nil=>rfl | cons x r=>cases h)
 | x::r=>mCons (m x) (mLs m r)
def dcast (t t':Ty) (xs:List t'.T):Option (List t.T):=if h:t'=t then some (h▸xs) else none
theorem Tq {t t':Ty} {xs:List t'.T} {ys:List t.T} (h:dcast t t' xs=some ys):∃ e:t'=t,ys=e▸xs:=by
 unfold dcast at h
 by_cases e:t'=t
 ·subst e;simp at h;exact ⟨rfl,h.symm⟩
 ·simp [e] at h
def mC0 (q:List TC→Mt (List TC)):TC→Mt TC
 | .bool _=>mH .bool (fun v=>match v with | .bool b=>some b | _=>none) (fun v a h=>by cases v<;>cases h;rfl)
 | .int k _=>mH (.int k) (fun v=>match v with | .int k' n=>if k'=k then some n else none | _=>none) (fun v a h=>by
   cases v<;>first | (cases h;done) | skip
   rename_i k' n
   by_cases e:k'=k
   ·subst e;simp at h;rw [h]
   ·simp [e] at h)
 | .str _=>mH .str (fun v=>match v with | .str b=>some b | _=>none) (fun v a h=>by cases v<;>cases h;rfl)
 | .d e t _=>mH (.d e t) (fun v=>match v with | .d e' t' xs=>cond (Nat.beq e' e) (dcast t t' xs) none | _=>none) (fun v a h=>by
   cases v<;>first | (cases h;done) | skip
   rename_i e' t' xs
   cases hb:Nat.beq e' e with
   | false=>simp [hb] at h
   | true=>
    simp only [hb,cond_true] at h
    obtain ⟨r,rfl⟩:=Tq h
    subst r
    rw [Nat.eq_of_beq_eq_true hb])
 | .nil=>mK .nil (fun v=>match v with | .nil=>true | _=>false) (fun v h=>by cases v<;>first | rfl | cases h)
 | .g i=>mK (.g i) (fun v=>match v with | .g j=>Nat.beq j i | _=>false) (fun v h=>by
   cases v<;>first | (cases h;done) | skip
   rw [Nat.eq_of_beq_eq_true h])
 | .ptr i o=>mK (.ptr i o) (fun v=>match v with | .ptr j p=>cond (Nat.beq j i) (Nat.beq p o) false | _=>false) (fun v h=>by
   cases v<;>first | (cases h;done) | skip
   rename_i j p
   cases hb:Nat.beq j i with
   | false=>simp [hb] at h
   | true=>
    simp only [hb,cond_true] at h
    rw [Nat.eq_of_beq_eq_true hb,Nat.eq_of_beq_eq_true h])
 | .fn f nf sh cells=>Un (q cells) (.fn f nf sh) (fun v=>match v with | .fn g n s cs=>cond (Nat.beq g f) (cond (Nat.beq n nf) (if s=sh then some cs else none) none) none | _=>none) (fun v a h=>by
   cases v<;>first | (cases h;done) | skip
   rename_i g n s cs
   cases hb:Nat.beq g f with
   | false=>simp [hb] at h
   | true=>
    cases hb2:Nat.beq n nf with
    | false=>simp [hb,hb2] at h
    | true=>
     simp only [hb,hb2,cond_true] at h
     by_cases e:s=sh
     ·simp [e] at h
      rw [Nat.eq_of_beq_eq_true hb,Nat.eq_of_beq_eq_true hb2,e,h]
     ·simp [e] at h)
 | .nilp=>mK .nilp (fun v=>match v with | .nilp=>true | _=>false) (fun v h=>by cases v<;>first | rfl | cases h)
 | .nilf=>mK .nilf (fun v=>match v with | .nilf=>true | _=>false) (fun v h=>by cases v<;>first | rfl | cases h)
 | .nili=>mK .nili (fun v=>match v with | .nili=>true | _=>false) (fun v h=>by cases v<;>first | rfl | cases h)
 | .yl i=>mK (.yl i) (fun v=>match v with | .yl j=>Nat.beq j i | _=>false) (fun v h=>by
   cases v<;>first | (cases h;done) | skip
   rw [Nat.eq_of_beq_eq_true h])
 | c=>mNo c
def mC:TC→Mt TC:=mC0 (mLs (mC0 fun l=>mNo l))
def mA:TA→Mt TA
 | .sc c=>Un (mC c) .sc (fun v=>match v with | .sc c=>some c | _=>none) (fun v a h=>by cases v<;>cases h;rfl)
 | .agg l=>Un (mLs mC l) .agg (fun v=>match v with | .agg c=>some c | _=>none) (fun v a h=>by cases v<;>cases h;rfl)
def mV:TV→Mt TV
 | .v a=>Un (mA a) .v (fun v=>match v with | .v c=>some c | _=>none) (fun v a h=>by cases v<;>cases h;rfl)
 | .no=>mK .no (fun v=>match v with | .no=>true | _=>false) (fun v h=>by cases v<;>first | rfl | cases h)
 | .l a b=>mK (.l a b) (fun v=>match v with | .l x y=>cond (Nat.beq x a) (Nat.beq y b) false | _=>false) (fun v h=>by
   cases v<;>first | (cases h;done) | skip
   rename_i x y
   cases hb:Nat.beq x a with
   | false=>simp [hb] at h
   | true=>
    simp only [hb,cond_true] at h
    rw [Nat.eq_of_beq_eq_true hb,Nat.eq_of_beq_eq_true h])
 | .s a b=>mK (.s a b) (fun v=>match v with | .s x y=>cond (Nat.beq x a) (Nat.beq y b) false | _=>false) (fun v h=>by
   cases v<;>first | (cases h;done) | skip
   rename_i x y
   cases hb:Nat.beq x a with
   | false=>simp [hb] at h
   | true=>
    simp only [hb,cond_true] at h
    rw [Nat.eq_of_beq_eq_true hb,Nat.eq_of_beq_eq_true h])
 | x=>mNo x
def mN {β:Type} (m:β→Mt β) (p:Nat×β):Mt (Nat×β):=
 Un (m p.2) (Prod.mk p.1) (fun q=>cond (Nat.beq q.1 p.1) (some q.2) none) (fun q a h=>by
  cases hb:Nat.beq q.1 p.1 with
  | false=>simp [hb] at h
  | true=>
   simp [hb] at h
   rw [← h,← Nat.eq_of_beq_eq_true hb])
def mO:TO→Mt TO
 | .row e t _=>mH (.row e t) (fun v=>match v with | .row e' t' xs=>cond (Nat.beq e' e) (dcast t t' xs) none | _=>none) (fun v a h=>by
   cases v<;>first | (cases h;done) | skip
   rename_i e' t' xs
   cases hb:Nat.beq e' e with
   | false=>simp [hb] at h
   | true=>
    simp only [hb,cond_true] at h
    obtain ⟨r,rfl⟩:=Tq h
    subst r
    rw [Nat.eq_of_beq_eq_true hb])
 | .crow e l=>Un (mLs mC l) (.crow e) (fun v=>match v with | .crow e' c=>cond (Nat.beq e' e) (some c) none | _=>none) (fun v a h=>by
   cases v<;>first | (cases h;done) | skip
   rename_i e' c
   cases hb:Nat.beq e' e with
   | false=>simp [hb] at h
   | true=>
    simp [hb] at h
    rw [Nat.eq_of_beq_eq_true hb,h])
 | .box e l=>Un (mLs mC l) (.box e) (fun v=>match v with | .box e' c=>cond (Nat.beq e' e) (some c) none | _=>none) (fun v a h=>by
   cases v<;>first | (cases h;done) | skip
   rename_i e' c
   cases hb:Nat.beq e' e with
   | false=>simp [hb] at h
   | true=>
    simp [hb] at h
    rw [Nat.eq_of_beq_eq_true hb,h])
 | .dead=>mK .dead (fun v=>match v with | .dead=>true | _=>false) (fun v h=>by cases v<;>first | rfl | cases h)
 | x=>mNo x
def mS (s:CS):Mt CS:=
 let A:=mLs (mN mV) s.sl
 let B:=mLs (mN (mLs mC)) s.lo
 let C:=mLs mO s.h
 ⟨fun R=>A.F (B.F (C.F R)),A.E×B.E×C.E,fun R f e=>C.app R (B.app _ (A.app _ f e.1) e.2.1) e.2.2,
  fun e=>{ sl:=A.fill e.1,lo:=B.fill e.2.1,h:=C.fill e.2.2,n0:=s.n0,w:=false },
  fun v=>cond v.w none (cond (Nat.beq v.n0 s.n0) ((A.get v.sl).bind fun a=>(B.get v.lo).bind fun b=>(C.get v.h).bind fun c=>some (a,b,c)) none),fun v e q=>by
   obtain ⟨vs,vl,vh,vn,vw⟩:=v
   cases vw with
   | true=>cases q
   | false=>
    cases hb:Nat.beq vn s.n0 with
    | false=>simp [hb] at q
    | true=>
     simp only [hb,cond_true,cond_false] at q
     cases h1:A.get vs with
     | none=>simp [h1] at q
     | some a=>
      cases h2:B.get vl with
      | none=>simp [h1,h2] at q
      | some b=>
       cases h3:C.get vh with
       | none=>simp [h1,h2,h3] at q
       | some c=>
        simp [h1,h2,h3] at q
        subst q
        rw [A.ok vs a h1,B.ok vl b h2,C.ok vh c h3,Nat.eq_of_beq_eq_true hb]⟩
def tq {α R:Type} (M:Mt α) (v:α) (K:M.F (Option R)):Option R:=(M.get v).bind fun e=>M.app _ K e
theorem tq_some {α R:Type} {M:Mt α} {v:α} {K:M.F (Option R)} {r:R} (h:tq M v K=some r):∃ e,v=M.fill e∧M.app _ K e=some r:=by
 unfold tq at h
 cases hg:M.get v with
 | none=>rw [hg] at h;cases h
 | some e=>rw [hg] at h;exact ⟨e,M.ok v e hg,h⟩
def tqa {R:Type} (l:List TA) (g:List TO) (al:List TA) (H:TH) (K:(mLs mA l).F ((mLs mO g).F (Option R))):Option R:=((mLs mA l).get al).bind fun a=>((mLs mO g).get H).bind fun b=>(mLs mO g).app _ ((mLs mA l).app _ K a) b
theorem tqa_some {R:Type} {l:List TA} {g:List TO} {al:List TA} {H:TH} {K:(mLs mA l).F ((mLs mO g).F (Option R))} {r:R} (h:tqa l g al H K=some r) :
  ∃ a b,al=(mLs mA l).fill a∧H=(mLs mO g).fill b∧(mLs mO g).app _ ((mLs mA l).app _ K a) b=some r:=by
 unfold tqa at h
 cases h1:(mLs mA l).get al with
 | none=>rw [h1] at h;cases h
 | some a=>
  cases h2:(mLs mO g).get H with
  | none=>rw [h1,h2] at h;cases h
  | some b=>rw [h1,h2] at h;exact ⟨a,b,(mLs mA l).ok al a h1,(mLs mO g).ok H b h2,h⟩
end
end Go.TM
namespace Go.AM
open Go.RowKit
variable {P : Program} {A : FAn} {ev : Ev} {s t : St} {ops : Array Oper}
theorem fr_idx (hl:ops.toList.all (WV A)=true):∀ {l:List Nat} {s t:St},xW A s→zQ P A ev ops l s=some t→Frs A s t (zQ P A ev ops l)
 | [],s,t,hs,h=>by cases h;exact ⟨rfl,hs,fun _ _=>rfl⟩
 | i::l,s,t,hs,h=>by
  cases hi:ops[i]? with
  | none=>
   have e:∀ s,zQ P A ev ops (i::l) s=zQ P A ev ops l s:=fun s=>by simp [zQ,hi]
   rw [e] at h
   obtain ⟨k1,k2,k3⟩:=fr_idx hl hs h
   exact ⟨k1,k2,fun f h2=>by rw [e];exact k3 f h2⟩
  | some o=>
   rw [yc hi] at h
   obtain ⟨s1,h1,h⟩:=oB h
   have ho:=List.all_eq_true.1 hl o (by rw [Array.mem_toList_iff];exact Array.mem_of_getElem? hi)
   have hg:o.guard=none:=by unfold WV at ho;simpa using (Bool.and_eq_true_iff.1 ho).1
   have one:∀ s,zj P A ev ops o s=evOp P A ev o s some:=fun s=>by unfold zj;rw [hg]
   rw [one] at h1
   obtain ⟨k1,k2,k3⟩:=fr_op ho hs h1
   obtain ⟨j1,j2,j3⟩:=fr_idx hl k2 h
   exact ⟨j1.trans k1,j2,fun f h2=>by rw [yc hi,one,show evOp P A ev o (St.fr f h2 s) some=some (St.fr f h2 s1) from k3 f h2];exact j3 f h2⟩
def Zb (A:FAn):Code→Bool
 | .region _ ops d=>!d&&ops.toList.all (WV A)
 | .seq a b=>Zb A a&&Zb A b
 | .skip | .ret=>true
 | _=>false
noncomputable def kf (t:Tr SV) (u:Tr SV) (i:Nat):Tr SV:=match t.get i with
 | some v=>u.set i v
 | none=>u
theorem keepT_eq (g:SV→SV) (t:Tr SV) (l:List Nat):keepT g t l=l.foldl (kf t) (t.map g):=by
 unfold keepT
 congr 1
 funext u i
 unfold kf
 cases t.get i<;>rfl
theorem TF {t u:Tr SV} {i:Nat} {v:SV} (h:t.get i=some v):kf t u i=u.set i v:=by unfold kf;rw [h]
theorem Tz {t u:Tr SV} {i:Nat} (h:t.get i=none):kf t u i=u:=by unfold kf;rw [h]
theorem keep_fr {f:Nat→Nat}:∀ (l:List Nat) (t u:Tr SV),(l.foldl (kf t) u).map (SV.ren f)=l.foldl (kf (t.map (SV.ren f))) (u.map (SV.ren f))
 | [],t,u=>rfl
 | i::l,t,u=>by
  simp only [List.foldl_cons]
  rw [keep_fr l t]
  congr 1
  cases h:t.get i with
  | none=>rw [Tz h,Tz (by rw [Tr.get_map,h];rfl)]
  | some v=>rw [TF h,TF (v:=v.ren f) (by rw [Tr.get_map,h];rfl),Tr.map_set]
theorem mask_fr {id:Nat} {s:St} {f:Nat→Nat} {h2:AH}:maskR A id (St.fr f h2 s)=St.fr f h2 (maskR A id s):=by
 unfold maskR
 split
 ·rfl
 ·simp only [St.fr,keepT_eq]
  congr 1
  rw [keep_fr,Tr.map_map,Tr.map_map]
  rfl
theorem keep_get:∀ (l:List Nat) (t u:Tr SV) (i:Nat) (v:SV),(l.foldl (kf t) u).get i=some v→t.get i=some v∨u.get i=some v
 | [],t,u,i,v,h=>.inr h
 | j::l,t,u,i,v,h=>by
  simp only [List.foldl_cons] at h
  rcases keep_get l t _ i v h with h | h
  ·exact .inl h
  ·cases hj:t.get j with
   | none=>rw [Tz hj] at h;exact .inr h
   | some w=>
    rw [TF hj] at h
    by_cases e:j=i
    ·subst e
     rw [Tr.get_set_self] at h
     obtain ⟨_,_,e2⟩:=oM h
     exact .inl (by rw [hj,e2])
    ·rw [Tr.get_set_ne _ e] at h;exact .inr h
theorem locS_mask {id:Nat} (hs:xW A s):xW A (maskR A id s):=by
 intro d hd v hv
 unfold maskR at hv
 split at hv
 ·exact hs d hd v hv
 ·simp only [keepT_eq] at hv
  rcases keep_get _ _ _ _ _ hv with h | h
  ·exact hs d hd v h
  ·rw [Tr.get_map] at h
   obtain ⟨_,_,rfl⟩:=oM h
   rfl
theorem TN {dOk:FAn→Array Oper→Bool} (hj:A.rj=[]) {k:Nat} {R:Type} {x:R}:∀ (c:Code) (blk:Nat) {s:St} {K:Ex→St→Option R},Zb A c=true→xW A s→evCode P A ev dOk k c blk s K=some x→
  ∃ e t,K e t=some x∧t.h=s.h∧xW A t∧∀ (f:Nat→Nat) (h2:AH) (K2:Ex→St→Option R),evCode P A ev dOk k c blk (St.fr f h2 s) K2=K2 e (St.fr f h2 t)
 | .skip,_,s,K,_,hs,h=>⟨_,_,h,rfl,hs,fun _ _ _=>rfl⟩
 | .ret,_,s,K,_,hs,h=>⟨_,_,h,rfl,hs,fun _ _ _=>rfl⟩
 | .region id ops draw,_,s,K,hl,hs,h=>by
  unfold Zb at hl
  obtain ⟨hd,hl⟩:=Bool.and_eq_true_iff.1 hl
  unfold evCode evRegion at h
  obtain ⟨_,h⟩:=gB.1 h
  rw [hj] at h
  simp only [List.find?_nil] at h
  rw [xz] at h
  obtain ⟨t,ht,h⟩:=oB h
  obtain ⟨k1,k2,k3⟩:=fr_idx hl hs ht
  have e:(maskR A id t).h=t.h:=by unfold maskR;split<;>rfl
  refine ⟨_,_,h,e.trans k1,locS_mask k2,fun f h2 K2=>?_⟩
  unfold evCode evRegion
  rw [hd,hj]
  simp only [List.find?_nil,Bool.true_or,guardB,cond_true]
  rw [xz,k3 f h2,Option.bind_some,mask_fr]
 | .seq a b,blk,s,K,hl,hs,h=>by
  unfold Zb at hl
  obtain ⟨ha,hb⟩:=Bool.and_eq_true_iff.1 hl
  unfold evCode at h
  obtain ⟨e,t,h,ht,k2,k3⟩:=TN hj a blk ha hs h
  unfold kSeq at h
  split at h
  ·obtain ⟨e2,t2,h,ht2,j2,j3⟩:=TN hj b blk hb k2 h
   refine ⟨e2,t2,h,ht2.trans ht,j2,fun f h2 K2=>?_⟩
   unfold evCode
   rw [k3]
   exact j3 f h2 K2
  ·rename_i hne
   refine ⟨_,_,h,ht,k2,fun f h2 K2=>?_⟩
   unfold evCode
   rw [k3]
   unfold kSeq
   split
   ·exact absurd rfl hne
   ·rfl
 | .label _,_,_,_,hl,_,_=>by cases hl
 | .exit _,_,_,_,hl,_,_=>by cases hl
 | .cond _ _ _,_,_,_,hl,_,_=>by cases hl
 | .block _ _,_,_,_,hl,_,_=>by cases hl
 | .loop _,_,_,_,hl,_,_=>by cases hl
 | .rangeFunc _ _ _ _,_,_,_,hl,_,_=>by cases hl
theorem Zt {α β:Type} (g:α→β):∀ (l:List α),(Tr.evens l).map g=Tr.evens (l.map g)
 | []=>rfl
 | [x]=>rfl
 | x::y::r=>by simp only [Tr.evens,List.map_cons];rw [Zt g r]
theorem Yd {α β:Type} (g:α→β):∀ (l:List α),(Tr.odds l).map g=Tr.odds (l.map g)
 | []=>rfl
 | [x]=>rfl
 | x::y::r=>by simp only [Tr.odds,List.map_cons];rw [Yd g r]
theorem Zf {α β:Type} (g:α→β):∀ (n:Nat) (l:List α),(Tr.ofL n l).map g=Tr.ofL n (l.map g)
 | _,[]=>by unfold Tr.ofL;rfl
 | 0,v::_=>rfl
 | d+1,x::r=>by
  show Tr.node ((Tr.ofL d (Tr.evens (x::r))).map g) ((Tr.ofL d (Tr.odds (x::r))).map g)=_
  rw [Zf g d,Zf g d,Zt,Yd]
  rfl
theorem enter_fr {fn:Func} {args:List AV} {h h2:AH} {f:Nat→Nat}:St.fr f h2 (enterSt fn args h)=enterSt fn (args.map (AV.ren f)) h2:=by
 unfold enterSt St.fr
 simp only [Zf,List.map_append,List.map_map,List.map_replicate,List.length_map]
 rfl
theorem locS_enter {fn:Func} {args:List AV} {h:AH} (hl:A.loc.all (fun d=>decide (args.length≤d))=true):xW A (enterSt fn args h):=by
 intro d hd v hv
 have hle:args.length≤d:=of_decide_eq_true (List.all_eq_true.1 hl d (by simpa using hd))
 have hg:=Tr.ofL_get _ _ _ _ hv
 rw [List.getElem?_append_right (by simpa using hle)] at hg
 have:=List.mem_of_getElem? hg
 rw [(List.mem_replicate.1 this).2];rfl
def freeRes (A:FAn):ResultVar→Bool
 | .tmp _=>true
 | .cell a _=>A.loc.contains a
theorem UM {R:Type}:∀ {l:List ResultVar} {c:List AV→Option R} {r:R},l.all (freeRes A)=true→xW A t→resOf P t l c=some r→∃ vs,c vs=some r∧∀ (f:Nat→Nat) (h2:AH) (c2:List AV→Option R),resOf P (St.fr f h2 t) l c2=c2 (vs.map (AV.ren f))
 | [],c,r,_,_,h=>⟨[],h,fun _ _ _=>rfl⟩
 | .tmp d::l,c,r,hl,hs,h=>by
  simp only [List.all_cons,Bool.and_eq_true] at hl
  simp only [resOf] at h
  obtain ⟨v,h1,h⟩:=oB h
  obtain ⟨a,h2,h⟩:=oB h
  obtain ⟨vs,h3,h4⟩:=UM hl.2 hs h
  refine ⟨a::vs,h3,fun f hh c2=>?_⟩
  have e:(v.ren f).val=some (a.ren f):=by cases v<;>first | (cases h2;rfl) | cases h2
  simp only [resOf]
  rw [show (St.fr f hh t).sl.get d=some (v.ren f) by show (t.sl.map _).get d=_;rw [Tr.get_map,h1];rfl,Option.bind_some,e,Option.bind_some,h4]
  rfl
 | .cell a ty::l,c,r,hl,hs,h=>by
  simp only [List.all_cons,Bool.and_eq_true] at hl
  simp only [resOf] at h
  obtain ⟨g1,h⟩:=gB.1 h
  obtain ⟨v,h1,h⟩:=oB h
  have hv:=hs a hl.1 v h1
  have get:∀ (f:Nat→Nat) (hh:AH),(St.fr f hh t).sl.get a=some (v.ren f):=fun f hh=>by show (t.sl.map _).get a=_;rw [Tr.get_map,h1];rfl
  replace h:=cond_some.1 h
  rcases h with ⟨g2,h⟩ | ⟨g2,h⟩
  ·replace h:=yy h
   obtain ⟨cs,k1,h⟩:=h
   have hlv:∃ k off,v=.l k off:=by
    cases v<;>first | exact ⟨_,_,rfl⟩ | (cases hv;done) | (unfold loadAt at k1;cases k1)
   obtain ⟨k,off,rfl⟩:=hlv
   obtain ⟨vs,h3,h4⟩:=UM hl.2 hs h
   refine ⟨.agg cs::vs,h3,fun f hh c2=>?_⟩
   simp only [resOf]
   rw [g1,get,g2]
   simp only [guardB,cond_true,Option.bind_some,SV.ren]
   have e0:=xu (fun l'=>resOf P (St.fr f hh t) l fun vs=>c2 (.agg l'::vs)) (St.fr f hh t) (.l k off) (P.cellsOf ty) some
   simp only [Option.bind_some] at e0
   rw [← e0,fr_load k1 f hh,Option.bind_some,h4]
   rfl
  ·replace h:=yL h
   obtain ⟨x,k1,h⟩:=h
   have hlv:∃ k off,v=.l k off:=by
    cases v<;>first | exact ⟨_,_,rfl⟩ | (cases hv;done) | (unfold load1 at k1;cases k1)
   obtain ⟨k,off,rfl⟩:=hlv
   obtain ⟨vs,h3,h4⟩:=UM hl.2 hs h
   refine ⟨.sc x::vs,h3,fun f hh c2=>?_⟩
   simp only [resOf]
   rw [g1,get,g2]
   simp only [guardB,cond_true,cond_false,Option.bind_some,SV.ren]
   have e0:=xG (fun x=>resOf P (St.fr f hh t) l fun vs=>c2 (.sc x::vs)) (St.fr f hh t) (.l k off) some
   simp only [Option.bind_some] at e0
   rw [← e0,fr_load1 k1 f hh,Option.bind_some,h4]
   rfl
def frOk (P:Program) (An:FuncId→FAn) (f:FuncId):Bool:=(An f).fr.all fun p=>match P.funcs[p.1]? with
 | some fn=>(match fn.body with | some c=>Zb (An p.1) c | none=>true)&&fn.results.toList.all (freeRes (An p.1))&&(An p.1).loc.all fun d=>decide (p.2≤d)
 | none=>true
theorem fr_ev {dOk:FAn→Array Oper→Bool} {An:FuncId→FAn} (hj:∀ f,(An f).rj=[]) (h:∀ f,frOk P An f=true):∀ k f,FrEv (An f) (evF P An dOk k)
 | 0,f=>fun n m _ as h rs h' _ he=>by cases he
 | k+1,f=>fun n m hn as h0 rs h' ha he=>by
  simp only [evF] at he
  obtain ⟨fn,hfn,he⟩:=oB he
  obtain ⟨code,hcode,he⟩:=oB he
  obtain ⟨hg,he⟩:=gB.1 he
  obtain ⟨p,hp,hq⟩:=List.any_eq_true.1 hn
  simp only [Bool.and_eq_true] at hq
  have e1:p.1=n:=Nat.eq_of_beq_eq_true hq.1
  have e2:p.2=m:=Nat.eq_of_beq_eq_true hq.2
  have h1:=List.all_eq_true.1 (show (An f).fr.all _=true from h f) p hp
  rw [e1,hfn] at h1
  simp only [hcode,Bool.and_eq_true,e2] at h1
  obtain ⟨⟨c1,c2⟩,c3⟩:=h1
  rw [← ha] at c3
  obtain ⟨e,t,hk,ht,k2,k3⟩:=TN (hj n) code 0 c1 (locS_enter c3) he
  have fin:∀ {e:Ex},e=.normal∨e=.ret→kFin P fn e t=some (rs,h')→h'=h0∧∀ (f:Nat→Nat) (h2:AH),kFin P fn e (St.fr f h2 t)=some (rs.map (AV.ren f),h2):=by
   intro e hee hk
   have e3:∀ t,kFin P fn e t=resOf P t fn.results.toList fun vs=>some (vs,t.h):=fun t=>by rcases hee with rfl | rfl<;>rfl
   rw [e3] at hk
   obtain ⟨vs,hv,hr⟩:=UM c2 k2 hk
   cases hv
   exact ⟨ht,fun f h2=>by rw [e3,hr];rfl⟩
  have all:h'=h0∧∀ (f:Nat→Nat) (h2:AH),kFin P fn e (St.fr f h2 t)=some (rs.map (AV.ren f),h2):=by
   cases e with
   | normal=>exact fin (.inl rfl) hk
   | ret=>exact fin (.inr rfl) hk
   | exit i=>cases hk
  refine ⟨all.1,fun f h2=>?_⟩
  simp only [evF,hfn,hcode,Option.bind_some,List.length_map,hg,guardB,cond_true]
  rw [← enter_fr,k3]
  exact all.2 f h2
variable {P : Program} {A : FAn} {ev : Ev} {ops : Array Oper} {o : Oper} {s t : St}
def frS (m:Nat):Sc→Prop
 | .sl id _ _=>m≤id
 | .ptr id _=>m≤id
 | _=>True
def frA (m:Nat) (a:AV):Prop:=∀ c∈a.cells,frS m c
def frV (m:Nat):SV→Prop
 | .v a=>frA m a
 | _=>True
structure Fr (A:FAn) (h0:AH) (s:St):Prop where
 hp:h0 <+: s.h
 sl:∀ d,A.fsh.contains d=true→∀ v,s.sl.get d=some v→frV h0.length v
 lo:∀ k,A.fsl.contains k=true→∀ cs,s.lo.get k=some (some cs)→∀ c∈cs,frS h0.length c
def Yo (A:FAn):Operand→Bool
 | .tmp d=>A.fsh.contains d
 | .const _=>true
 | .func _=>true
 | .global _=>false
def wP (A:FAn) (o:Oper):Bool:=match o.dst with | some d=>!(A.fsh.contains d) | none=>true
variable {h0 : AH}
theorem Uz {m:Nat} {v:Value} {x:Sc} (h:ofConst v=some x):frS m x:=by
 unfold ofConst at h
 split at h<;>first | (cases h;trivial) | cases h
theorem VX {m:Nat}:∀ {l:List Value} {z:List Sc},ofConsts l=some z→∀ c∈z,frS m c
 | [],z,h=>by cases h;intro c hc;cases hc
 | v::r,z,h=>by
  simp only [ofConsts] at h
  replace h:=oB h
  obtain ⟨x,hx,h⟩:=h
  replace h:=oB h
  obtain ⟨xs,hxs,h⟩:=h
  cases h
  intro c hc
  rcases List.mem_cons.1 hc with rfl | hc
  ·exact Uz hx
  ·exact VX hxs c hc
theorem zero_fr {m:Nat} {e:TypeId} {z:List Sc} (h:zeroCells P e=some z):∀ c∈z,frS m c:=by
 unfold zeroCells at h
 replace h:=oB h
 obtain ⟨i,_,h⟩:=h
 replace h:=oB h
 obtain ⟨v,_,h⟩:=h
 exact VX h
theorem wl {m:Nat} {c:Sc} (h:frS m c):frV m (.v (.sc c)):=fun x hx=>by
 rw [show (AV.sc c).cells=[c] from rfl,List.mem_singleton] at hx;rw [hx];exact h
theorem fr_sc {m:Nat} {c:Sc} (h:frV m (.v (.sc c))):frS m c:=h c (by rw [show (AV.sc c).cells=[c] from rfl];exact List.mem_singleton.2 rfl)
theorem wu (hi:Fr A h0 s) {x:Operand} (hx:Yo A x=true) {v:SV} (h:evA s x=some v):frV h0.length v:=by
 cases x with
 | tmp d=>exact hi.sl d hx v h
 | const c=>
  simp only [evA] at h
  replace h:=oB h
  obtain ⟨y,hy,h⟩:=h
  cases h
  exact wl (Uz hy)
 | func f=>cases h;exact wl trivial
 | global _=>cases hx
theorem WN (hi:Fr A h0 s) {x:Operand} (hx:Yo A x=true) {v:AV} (h:evV s x=some v):frA h0.length v:=by
 unfold evV at h
 replace h:=oB h
 obtain ⟨a,ha,h⟩:=h
 have:=wu hi hx ha
 cases a<;>first | cases h
 exact this
theorem Fr.set (hi:Fr A h0 s) {d:Option Tmp} {v:SV} (hv:∀ t,d=some t→A.fsh.contains t=true→frV h0.length v):Fr A h0 (setSl s d v):=by
 refine ⟨by rw [zB];exact hi.hp,fun e he w hw=>?_,fun k hk cs hc=>hi.lo k hk cs (by rwa [wd] at hc)⟩
 cases d with
 | none=>exact hi.sl e he w hw
 | some d=>
  simp only [setSl] at hw
  by_cases c:d=e
  ·subst c
   rw [Tr.get_set_self] at hw
   obtain ⟨_,_,rfl⟩:=oM hw
   exact hv d rfl he
  ·rw [Tr.get_set_ne _ c] at hw;exact hi.sl e he w hw
theorem Fr.setN (hi:Fr A h0 s) (hn:wP A o=true) {v:SV}:Fr A h0 (setSl s o.dst v):=
 hi.set fun t ht hf=>by unfold wP at hn;rw [ht] at hn;simp only [hf] at hn;cases hn
theorem Fr.heap (hi:Fr A h0 s) {h:AH} (hp:h0 <+: h):Fr A h0 { s with h:=h }:=⟨hp,hi.sl,hi.lo⟩
theorem Fr.local (hi:Fr A h0 s) {d:Tmp} {a:SV} {z:List Sc} (ha:frV h0.length a) (hz:A.fsl.contains d=true→∀ c∈z,frS h0.length c):Fr A h0 (newLocal s d a z):=by
 refine ⟨hi.hp,fun e he w hw=>?_,fun k hk cs hc=>?_⟩
 ·simp only [newLocal] at hw
  by_cases c:d=e
  ·subst c
   rw [Tr.get_set_self] at hw
   obtain ⟨_,_,rfl⟩:=oM hw
   exact ha
  ·rw [Tr.get_set_ne _ c,Tr.get_map] at hw
   obtain ⟨y,hy,rfl⟩:=oM hw
   have:=hi.sl e he y hy
   unfold killL
   split
   ·cases Nat.beq _ _<;>trivial
   ·cases Nat.beq _ _<;>trivial
   ·exact this
 ·simp only [newLocal] at hc
  by_cases c:d=k
  ·subst c
   rw [Tr.get_set_self] at hc
   obtain ⟨_,_,e⟩:=oM hc
   cases e
   exact hz hk
  ·rw [Tr.get_set_ne _ c] at hc;exact hi.lo k hk cs hc
theorem YO {h0 h:AH} {id:Nat} {x:AO} (hp:h0 <+: h) (hi:h0.length≤id):h0 <+: h.set id x:=by
 obtain ⟨r,rfl⟩:=hp
 rw [List.set_append,if_neg (by omega)]
 exact List.prefix_append _ _
theorem UZ {h0 h:AH} (hp:h0 <+: h):h0.length≤h.length:=hp.length_le
theorem st_fr {h0 h h':AH} {id off:Nat} {v:List Sc} (hp:h0 <+: h) (hi:h0.length≤id) (hs:st h id off v=some h'):h0 <+: h':=by
 unfold st at hs
 replace hs:=oB hs
 obtain ⟨ob,_,hs⟩:=hs
 split at hs
 ·obtain ⟨c',_,hs⟩:=oB hs
  cases hs;exact YO hp hi
 ·obtain ⟨c',_,hs⟩:=oB hs
  cases hs;exact YO hp hi
 ·cases hs
def YE (A:FAn) (o:Oper):Bool:=
 match o.op with
 | .makeSlice _ _ _ | .alloc _=>true
 | .box _ x=>(match o.dst with | some d=>!(A.loc.contains d)||(!(A.fsl.contains d)||Yo A x) | none=>true)
 | .buildSlice _ _ _=>(match o.dst with | some d=>!(A.loc.contains d)||!(A.fsl.contains d) | none=>true)
 | .store _ a x=>(match rootOf A a with | some k=>!(A.fsl.contains k)||Yo A x | none=>(match a with | .tmp d=>A.fsh.contains d&&A.hst.contains d | _=>false))
 | .load _ x=>wP A o||(match rootOf A x with | some k=>A.fsl.contains k | none=>false)
 | .move x | .assign x=>wP A o||Yo A x
 | .pick _ a b=>wP A o||(Yo A a&&Yo A b)
 | .slice _ x _ _ _=>wP A o||Yo A x
 | .indexAddr _ x _ | .fieldAddr _ x _ | .nilCheck x=>wP A o||Yo A x
 | .build _ _ | .binOp _ _ _ _ _ | .unOp _ _ _ | .convert _ _ _ | .makeFunc _ _ _ | .extract _ _ | .index _ _ _=>wP A o
 | .call { callee:=.builtin .append,args,.. }=>(match args.toList with | [x,_]=>Yo A x | _=>false)
 | .call { callee:=.builtin .len,.. } | .call { callee:=.builtin .max,.. } | .call { callee:=.builtin .min,.. }=>wP A o
 | .call { callee:=.value (.func n),.. }=>wP A o&&(A.ro.contains n||A.gr.contains n)
 | .call { callee:=.value _,.. }=>wP A o&&(A.rov||A.grv)
 | .panic _=>true
 | _=>false
theorem call_fr (hr:yt A ev) {f:Operand} {args:Array Operand} {ts:Array TypeId} (ho:o.op=.call { callee:=.value f,args:=args,argTypes:=ts }) (hn:wP A o=true)
  (hg:(∃ n,f=.func n∧(A.ro.contains n||A.gr.contains n)=true)∨(A.rov||A.grv)=true) (hi:Fr A h0 s) (h:evOp P A ev o s some=some t):Fr A h0 t:=by
 rw [xJ ho] at h
 replace h:=oB h
 obtain ⟨⟨v,h'⟩,hq,h⟩:=h
 cases h
 refine Fr.setN (hi.heap ?_) hn
 unfold ww at hq
 replace hq:=oB hq
 obtain ⟨fv,hfv,hq⟩:=hq
 replace hq:=asSc_some.1 hq
 obtain ⟨fs,rfl,hq⟩:=hq
 replace hq:=asF_some.1 hq
 obtain ⟨g,nf,sh,cs,rfl,hq⟩:=hq
 replace hq:=oB hq
 obtain ⟨as,has,hq⟩:=hq
 replace hq:=oB hq
 obtain ⟨vs,hvs,hq⟩:=hq
 have ty:∀ {rs:List AV} {h1:AH},(typed P o.type rs fun v=>some (v,h1))=some (v,h')→h'=h1:=by
  intro rs h1 hq
  have e:=wh (fun v:SV=>some (v,h1)) P o.type rs some
  simp only [Option.bind_some] at e
  rw [← e] at hq
  replace hq:=oB hq
  obtain ⟨_,_,hq⟩:=hq
  cases hq;rfl
 have key:∀ n,g=.func n→okv A n=true→(A.ro.contains n||A.gr.contains n)=true:=by
  intro n hgn hok
  rcases hg with ⟨m,rfl,hm⟩ | hg
  ·have:evV s (.func m)=some (.sc (.fn (.func m) 0 [] [])):=rfl
   rw [this] at hfv
   cases hfv
   cases hgn
   exact hm
  ·unfold okv at hok
   obtain ⟨h1,h2⟩:=Bool.and_eq_true_iff.1 hok
   cases hrv:A.rov with
   | true=>rw [hrv] at h1;simp at h1;simp [h1]
   | false=>
    rw [hrv] at hg
    simp at hg
    rw [hg] at h2
    simp at h2
    rcases h2 with h2 | h2<;>simp [h2]
 unfold callK at hq
 split at hq
 ·rename_i n
  replace hq:=gB.1 hq
  obtain ⟨hok,hq⟩:=hq
  have hk:=key n rfl hok
  rcases cond_some.1 hq with ⟨_,hq⟩ | ⟨_,hq⟩
  ·split at hq
   ·rw [ty (gB.1 (gB.1 hq).2).2];exact hi.hp
   ·obtain ⟨p,_,hq⟩:=oB hq
    rw [ty (gB.1 hq).2];exact hi.hp
  ·obtain ⟨⟨rs,h1⟩,hp,hq⟩:=oB hq
   rw [ty hq]
   rcases Bool.or_eq_true_iff.1 hk with hk | hk
   ·rw [hr.1 n hk _ _ _ _ hp];exact hi.hp
   ·exact hi.hp.trans (hr.2.2 n hk _ _ _ _ hp)
 ·obtain ⟨hok,_⟩:=gB.1 hq
  exfalso
  rcases hg with ⟨m,rfl,_⟩ | hg
  ·have:evV s (.func m)=some (.sc (.fn (.func m) 0 [] [])):=rfl
   rw [this] at hfv;cases hfv
  ·unfold oky at hok
   cases h1:A.rov<;>cases h2:A.grv<;>rw [h1,h2] at hok hg<;>simp at hok hg
 ·cases hq
theorem loadAt_fr {sv:SV} {n:Nat} {l:List Sc} {k off:Nat} (hi:Fr A h0 s) (hk:A.fsl.contains k=true) (he:sv=.l k off) (h:loadAt s sv n some=some l):∀ c∈l,frS h0.length c:=by
 subst he
 rw [wO] at h
 replace h:=oB h
 obtain ⟨b,hb,h⟩:=h
 replace h:=oB h
 obtain ⟨cs,hcs,h⟩:=h
 replace h:=oB h
 obtain ⟨l',hl,h⟩:=h
 cases h
 subst hcs
 unfold cut at hl
 replace hl:=gB.1 hl
 obtain ⟨_,hl⟩:=hl
 cases hl
 exact fun c hc=>hi.lo k hk cs hb c (List.mem_of_mem_drop (List.mem_of_mem_take hc))
theorem Wp {R:Type} {x:Option Operand} {d:Nat} {c:Nat→Option R} {q:R} (h:boundI s x d c=some q):∃ j,c j=some q:=by
 unfold boundI at h
 split at h
 ·exact ⟨_,h⟩
 ·replace h:=oB h
  obtain ⟨v,_,h⟩:=h
  split at h
  ·exact ⟨_,(gB.1 h).2⟩
  ·cases h
theorem Tf {R:Type} {e:TypeId} {z:Nat} {x:Sc} {lo hi mx:Option Operand} {c:Sc→Option R} {q:R} {m:Nat} (hx:frS m x) (h:sliceS s e z x lo hi mx c=some q):∃ v,frS m v∧c v=some q:=by
 unfold sliceS at h
 obtain ⟨l,h⟩:=Wp h
 obtain ⟨g,h⟩:=Wp h
 obtain ⟨n,h⟩:=Wp h
 replace h:=(gB.1 h).2
 refine ⟨_,?_,h⟩
 cases mx0 mx with
 | true=>
  simp only [cond_true]
  cases x<;>trivial
 | false=>
  simp only [cond_false]
  cases x<;>first | exact hx | trivial
theorem QG {R:Type} {a:SV} {n:Nat} {c:SV→Option R} {q:R} {m:Nat} (ha:frV m a) (h:addAt a n c=some q):∃ v,frV m v∧c v=some q:=by
 unfold addAt at h
 split at h
 ·refine ⟨_,?_,h⟩;trivial
 ·rename_i p
  obtain ⟨id,off,rfl,h⟩:=asP_some.1 h
  refine ⟨_,?_,h⟩
  exact wl (show m≤id from fr_sc ha)
 ·cases h
theorem lenA_val {R:Type} {a:SV} {c:Nat→Option R} {q:R} (h:lenA a c=some q):∃ n,c n=some q:=by
 unfold lenA at h
 split at h
 ·exact ⟨_,h⟩
 ·exact ⟨_,(gB.1 h).2⟩
 ·cases h
theorem firstA_val {R:Type} {a:SV} {n z:Nat} {c:List Sc→Option R} {q:R} (h:firstA s a n z c=some q):∃ l,c l=some q:=by
 unfold firstA at h
 split at h
 ·replace h:=oB h
  obtain ⟨b,_,h⟩:=h
  replace h:=oB h
  obtain ⟨cs,_,h⟩:=h
  unfold cutK at h
  exact ⟨_,(gB.1 h).2⟩
 ·split at h
  ·exact ⟨_,(gB.1 h).2⟩
  ·obtain ⟨id,off,_,rfl,h⟩:=asS_some.1 h
   unfold ldNK at h
   replace h:=oB h
   obtain ⟨b,_,h⟩:=h
   replace h:=oB h
   obtain ⟨cs,_,h⟩:=h
   unfold cutK at h
   exact ⟨_,(gB.1 h).2⟩
 ·cases h
theorem appendS_val {R:Type} {h1:AH} {e:TypeId} {z:Nat} {x:Sc} {new:List Sc} {n:Nat} {c:Sc→AH→Option R} {q:R} (hp:h0 <+: h1) (hx:frS h0.length x) (h:appendS h1 e z x new n c=some q):∃ v h2,frS h0.length v∧h0 <+: h2∧c v h2=some q:=by
 have hlen:=UZ hp
 unfold appendS at h
 split at h
 ·exact ⟨_,_,hx,hp,(gB.1 h).2⟩
 ·split at h
  ·refine ⟨_,_,?_,hp.trans (List.prefix_append _ _),(gB.1 h).2⟩
   exact hlen
  ·replace h:=oB h
   obtain ⟨ob,_,h⟩:=h
   split at h
   ·refine ⟨_,_,?_,(YO hp hx).trans (List.prefix_append _ _),(gB.1 h).2⟩
    exact hlen
   ·cases h
  ·cases h
theorem UT (hr:yt A ev) (hl:YE A o=true) (hi:Fr A h0 s) (h:evOp P A ev o s some=some t):Fr A h0 t:=by
 have hlen:=UZ hi.hp
 have push:∀ {d:Option Tmp} {v:SV} {O:AO},frV h0.length v→Fr A h0 (setSl { s with h:=s.h++[O] } d v):=fun {d v O} hv=>(hi.heap (hi.hp.trans (List.prefix_append _ _))).set fun _ _ _=>hv
 have pure:wP A o=true→(zu A o=.pure∨zu A o=.read)→Fr A h0 t:=by
  intro hn hc
  have n1:zu A o≠.loc:=by rcases hc with h | h<;>rw [h]<;>intro e<;>cases e
  have n2:zu A o≠.new:=by rcases hc with h | h<;>rw [h]<;>intro e<;>cases e
  have h1:zj P A ev #[] { o with guard:=none } s=some t:=h
  have hc':zu A { o with guard:=none }=.pure∨zu A { o with guard:=none }=.read:=hc
  obtain ⟨⟨v,H,e,_⟩,k⟩:=yA (o:={ o with guard:=none }) n1 n2 h1
  have hh:t.h=s.h:=k (by simpa using hc')
  have e':H=s.h:=by rw [e,zB] at hh;exact hh
  rw [e,e']
  exact hi.setN (o:=o) hn
 unfold YE at hl
 split at hl
 ·rename_i ty lo mo ho
  unfold evOp at h
  rw [ho] at h
  simp only [setK_eq] at h
  replace h:=oB h
  obtain ⟨e,_,h⟩:=h
  replace h:=oB h
  obtain ⟨z,hz,h⟩:=h
  replace h:=oB h
  obtain ⟨l,_,h⟩:=h
  replace h:=oB h
  obtain ⟨m,_,h⟩:=h
  split at h
  ·obtain ⟨_,h⟩:=gB.1 h
   cases h;exact push (wl hlen)
  ·cases h
 ·rename_i e ho
  unfold evOp at h
  rw [ho] at h
  simp only [setK_eq,newLocalK_eq] at h
  replace h:=oB h
  obtain ⟨d,hd,h⟩:=h
  replace h:=oB h
  obtain ⟨z,hz,h⟩:=h
  replace h:=gB.1 h
  obtain ⟨_,h⟩:=h
  rcases cond_some.1 h with ⟨_,h⟩ | ⟨_,h⟩
  ·cases h;exact hi.local trivial fun _=>zero_fr hz
  ·cases h;exact push (wl hlen)
 ·rename_i e x ho
  unfold evOp at h
  rw [ho] at h
  simp only [setK_eq,newLocalK_eq] at h
  replace h:=oB h
  obtain ⟨d,hd,h⟩:=h
  replace h:=oB h
  obtain ⟨v,hv,h⟩:=h
  replace h:=gB.1 h
  obtain ⟨_,h⟩:=h
  rcases cond_some.1 h with ⟨hloc,h⟩ | ⟨_,h⟩
  ·cases h
   refine hi.local trivial fun hk=>?_
   rw [hd] at hl
   simp only [hloc,hk,Bool.not_true,Bool.false_or] at hl
   exact WN hi hl hv
  ·cases h;exact push (wl hlen)
 ·rename_i ty n ps ho
  unfold evOp at h
  rw [ho] at h
  simp only [setK_eq,newLocalK_eq] at h
  replace h:=oB h
  obtain ⟨d,hd,h⟩:=h
  replace h:=oB h
  obtain ⟨e,_,h⟩:=h
  replace h:=oB h
  obtain ⟨z,hz,h⟩:=h
  replace h:=gB.1 h
  obtain ⟨_,h⟩:=h
  replace h:=oB h
  obtain ⟨vs,_,h⟩:=h
  replace h:=oB h
  obtain ⟨cs,_,h⟩:=h
  rcases cond_some.1 h with ⟨hloc,h⟩ | ⟨_,h⟩
  ·cases h
   refine hi.local trivial fun hk=>?_
   rw [hd] at hl
   simp only [hloc,hk,Bool.not_true,Bool.or_self] at hl
   cases hl
  ·cases h;exact push (wl hlen)
 ·rename_i ty a x ho
  unfold evOp at h
  rw [ho] at h
  replace h:=gB.1 h
  obtain ⟨_,h⟩:=h
  replace h:=oB h
  obtain ⟨av,hav,h⟩:=h
  replace h:=oB h
  obtain ⟨v,hv,h⟩:=h
  replace h:=gB.1 h
  obtain ⟨hg,h⟩:=h
  replace h:=yY h
  obtain ⟨s1,hs1,h⟩:=h
  rw [setK_eq] at h
  cases h
  refine Fr.set ?_ fun _ _ _=>trivial
  have hs:=(Bool.and_eq_true_iff.1 hg).2
  unfold onlyS at hs
  obtain ⟨oH,oR⟩:=Bool.and_eq_true_iff.1 hs
  rw [yw] at hs1
  cases hroot:rootOf A a with
  | some k=>
   rw [hroot] at hl
   unfold onlyR at oR
   rw [hroot] at oR
   simp only at oR hl
   split at oR
   ·rename_i k' off
    have hkk:k=k':=Nat.eq_of_beq_eq_true oR
    subst hkk
    simp only at hs1
    replace hs1:=oB hs1
    obtain ⟨b,hb,hs1⟩:=hs1
    replace hs1:=oB hs1
    obtain ⟨cs,hcs,hs1⟩:=hs1
    replace hs1:=oB hs1
    obtain ⟨cs',hput,hs1⟩:=hs1
    cases hs1
    subst hcs
    refine ⟨hi.hp,hi.sl,fun k2 hk2 c2 hc2=>?_⟩
    by_cases ek:k=k2
    ·subst ek
     simp only at hc2
     rw [Tr.get_set_self] at hc2
     obtain ⟨_,_,e⟩:=oM hc2
     cases e
     simp only [hk2,Bool.not_true,Bool.false_or] at hl
     have hvf:=WN hi hl hv
     unfold put at hput
     replace hput:=gB.1 hput
     obtain ⟨_,hput⟩:=hput
     cases hput
     intro c hc
     unfold splice at hc
     rcases List.mem_append.1 hc with hc | hc
     ·rcases List.mem_append.1 hc with hc | hc
      ·exact hi.lo k hk2 cs hb c (List.mem_of_mem_take hc)
      ·exact hvf c hc
     ·exact hi.lo k hk2 cs hb c (List.mem_of_mem_drop hc)
    ·simp only at hc2
     rw [Tr.get_set_ne _ ek] at hc2
     exact hi.lo k2 hk2 c2 hc2
   ·cases oR
  | none=>
   rw [hroot] at hl
   simp only at hl
   split at hl
   ·rename_i d
    obtain ⟨hd1,hd2⟩:=Bool.and_eq_true_iff.1 hl
    have hfr:frV h0.length av:=wu hi (x:=.tmp d) hd1 hav
    unfold onlyH at oH
    simp only [hd2,Bool.not_true,Bool.false_or] at oH
    split at oH
    ·rename_i a'
     split at hs1
     ·rename_i k off e;cases e
     ·rename_i p e
      cases e
      replace hs1:=asP_some.1 hs1
      obtain ⟨id,off,rfl,hs1⟩:=hs1
      replace hs1:=oB hs1
      obtain ⟨h',hst,hs1⟩:=hs1
      cases hs1
      exact hi.heap (st_fr hi.hp (fr_sc hfr) hst)
     ·cases hs1
    ·cases oH
   ·cases hl
 ·rename_i ty x ho
  by_cases hn:wP A o=true
  ·refine pure hn ?_
   unfold zu
   rw [ho]
   cases x with
   | tmp d=>
    simp only
    cases A.loc.contains d with
    | true=>exact .inl rfl
    | false=>exact .inr rfl
   | _=>exact .inr rfl
  ·simp only [Bool.eq_false_iff.2 hn,Bool.false_or] at hl
   cases hroot:rootOf A x with
   | none=>rw [hroot] at hl;cases hl
   | some k=>
    rw [hroot] at hl
    simp only at hl
    unfold evOp at h
    rw [ho] at h
    replace h:=gB.1 h
    obtain ⟨_,h⟩:=h
    replace h:=oB h
    obtain ⟨a,ha,h⟩:=h
    replace h:=gB.1 h
    obtain ⟨hg,h⟩:=h
    have hx:=(Bool.and_eq_true_iff.1 hg).2
    unfold onlyX at hx
    have oR:=(Bool.and_eq_true_iff.1 (Bool.and_eq_true_iff.1 hx).1).2
    unfold onlyR at oR
    rw [hroot] at oR
    simp only at oR
    split at oR
    ·rename_i k' off
     have hkk:k=k':=Nat.eq_of_beq_eq_true oR
     subst hkk
     rcases cond_some.1 h with ⟨_,h⟩ | ⟨_,h⟩
     ·obtain ⟨l,hl2,h⟩:=yy h
      have hh:=yz h
      rw [setK_eq] at hh
      cases hh
      exact hi.set fun _ _ _=>loadAt_fr hi hl rfl hl2
     ·obtain ⟨c,hc,h⟩:=yL h
      have hh:=yF h
      rw [setK_eq] at hh
      cases hh
      refine hi.set fun _ _ _=>wl ?_
      unfold load1 at hc
      simp only at hc
      replace hc:=oB hc
      obtain ⟨b,hb,hc⟩:=hc
      replace hc:=oB hc
      obtain ⟨cs,hcs,hc⟩:=hc
      replace hc:=oB hc
      obtain ⟨y,hy,hc⟩:=hc
      cases hc
      subst hcs
      exact hi.lo k hl cs hb _ (List.mem_of_getElem? hy)
    ·cases oR
 ·rename_i x ho
  rcases Bool.or_eq_true_iff.1 hl with hn | hx
  ·exact pure hn (by unfold zu;rw [ho];exact .inl rfl)
  ·unfold evOp at h
   rw [ho] at h
   simp only [setK_eq] at h
   replace h:=oB h
   obtain ⟨v,hv,h⟩:=h
   cases h;exact hi.set fun _ _ _=>wu hi hx hv
 ·rename_i x ho
  rcases Bool.or_eq_true_iff.1 hl with hn | hx
  ·exact pure hn (by unfold zu;rw [ho];exact .inl rfl)
  ·unfold evOp at h
   rw [ho] at h
   simp only [setK_eq] at h
   replace h:=oB h
   obtain ⟨v,hv,h⟩:=h
   cases h;exact hi.set fun _ _ _=>wu hi hx hv
 ·rename_i q a b ho
  rcases Bool.or_eq_true_iff.1 hl with hn | hx
  ·exact pure hn (by unfold zu;rw [ho];exact .inl rfl)
  ·obtain ⟨ha,hb⟩:=Bool.and_eq_true_iff.1 hx
   unfold evOp at h
   rw [ho] at h
   simp only [setK_eq] at h
   replace h:=oB h
   obtain ⟨v,hv,h⟩:=h
   replace h:=asSc_some.1 h
   obtain ⟨v,rfl,h⟩:=h
   replace h:=asB_some.1 h
   obtain ⟨v,rfl,h⟩:=h
   replace h:=YJ h
   obtain ⟨w,h,hw⟩:=h
   cases h
   refine hi.set fun _ _ _=>?_
   rcases hw with ⟨_,_,_,_,rfl⟩ | ⟨_,hw⟩ | ⟨_,hw⟩
   ·exact wl trivial
   ·exact wu hi ha hw
   ·exact wu hi hb hw
 ·rename_i ty x lo hh mx ho
  rcases Bool.or_eq_true_iff.1 hl with hn | hx
  ·exact pure hn (by unfold zu;rw [ho];exact .inr rfl)
  ·unfold evOp at h
   rw [ho] at h
   simp only [setK_eq] at h
   split at h
   ·replace h:=gB.1 h
    obtain ⟨_,h⟩:=h
    replace h:=oB h
    obtain ⟨v,hv,h⟩:=h
    replace h:=asSc_some.1 h
    obtain ⟨v,rfl,h⟩:=h
    obtain ⟨w,hw,h⟩:=Tf (m:=h0.length) (WN hi hx hv v (List.mem_singleton.2 rfl)) h
    cases h;exact hi.set fun _ _ _=>wl hw
   ·replace h:=gB.1 h
    obtain ⟨_,h⟩:=h
    replace h:=oB h
    obtain ⟨v,hv,h⟩:=h
    replace h:=asSc_some.1 h
    obtain ⟨v,rfl,h⟩:=h
    replace h:=asP_some.1 h
    obtain ⟨id,off,rfl,h⟩:=h
    replace h:=gB.1 h
    obtain ⟨_,h⟩:=h
    have hid:h0.length≤id:=WN hi hx hv (.ptr id off) (List.mem_singleton.2 rfl)
    obtain ⟨w,hw,h⟩:=Tf (m:=h0.length) (show frS h0.length (.sl id off _) from hid) h
    cases h;exact hi.set fun _ _ _=>wl hw
   ·cases h
 ·rename_i ty x i ho
  rcases Bool.or_eq_true_iff.1 hl with hn | hx
  ·exact pure hn (by unfold zu;rw [ho];exact .inl rfl)
  ·unfold evOp at h
   rw [ho] at h
   simp only [setK_eq] at h
   split at h
   ·replace h:=gB.1 h
    obtain ⟨_,h⟩:=h
    replace h:=oB h
    obtain ⟨v,hv,h⟩:=h
    replace h:=asSc_some.1 h
    obtain ⟨v,rfl,h⟩:=h
    replace h:=asS_some.1 h
    obtain ⟨id,off,len,rfl,h⟩:=h
    have hid:h0.length≤id:=WN hi hx hv (.sl id off len) (List.mem_singleton.2 rfl)
    replace h:=oB h
    obtain ⟨j,hj,h⟩:=h
    obtain ⟨_,_,_,_,h⟩:=Yf h
    cases h;exact hi.set fun _ _ _=>wl hid
   ·replace h:=gB.1 h
    obtain ⟨_,h⟩:=h
    replace h:=oB h
    obtain ⟨v,hv,h⟩:=h
    replace h:=oB h
    obtain ⟨j,hj,h⟩:=h
    obtain ⟨_,_,_,_,h⟩:=Yf h
    obtain ⟨w,hw,h⟩:=QG (wu hi hx hv) h
    cases h;exact hi.set fun _ _ _=>hw
   ·cases h
 ·rename_i ty x i ho
  rcases Bool.or_eq_true_iff.1 hl with hn | hx
  ·exact pure hn (by unfold zu;rw [ho];exact .inl rfl)
  ·unfold evOp at h
   rw [ho] at h
   simp only [setK_eq] at h
   split at h
   ·replace h:=oB h
    obtain ⟨f,_,h⟩:=h
    replace h:=gB.1 h
    obtain ⟨_,h⟩:=h
    replace h:=oB h
    obtain ⟨v,hv,h⟩:=h
    obtain ⟨w,hw,h⟩:=QG (wu hi hx hv) h
    cases h;exact hi.set fun _ _ _=>hw
   ·cases h
 ·rename_i x ho
  rcases Bool.or_eq_true_iff.1 hl with hn | hx
  ·exact pure hn (by unfold zu;rw [ho];exact .inl rfl)
  ·unfold evOp at h
   rw [ho] at h
   simp only [setK_eq] at h
   replace h:=oB h
   obtain ⟨v,hv,h⟩:=h
   have hf:=wu hi hx hv
   split at h
   ·cases h;exact hi.set fun _ _ _=>trivial
   ·rename_i p
    replace h:=asP_some.1 h
    obtain ⟨id,off,rfl,h⟩:=h
    cases h;exact hi.set fun _ _ _=>hf
   ·cases h
 all_goals first
  | (rename_i ho;exact pure hl (by unfold zu;rw [ho];exact .inl rfl))
  | skip
 ·rename_i args ts ho
  split at hl
  ·rename_i x y hargs
   unfold evOp at h
   rw [ho] at h
   simp only [hargs,setK_eq] at h
   rcases hts:ts.toList with _ | ⟨ty,_ | ⟨ty2,_ | ⟨w,r⟩⟩⟩<;>rw [hts] at h
   ·cases h
   ·cases h
   ·change ((elemOf P ty).bind fun e=>(zeroCells P e).bind fun z=>guardB ((elemOf P ty2).isSome&&decide (P.bytesOf e≤8192)&&Nat.beq z.length (P.cellsOf e))<|
     (evA s x).bind fun xv=>ontoK A x xv fun xs=>(evA s y).bind fun a=>lenA a fun n=>firstA s a n (P.cellsOf e) fun new=>
      appendS s.h e (P.cellsOf e) xs new n fun v h=>some (setSl { s with h:=h } o.dst (.v (.sc v))))=some t at h
    replace h:=oB h
    obtain ⟨e,_,h⟩:=h
    replace h:=oB h
    obtain ⟨z,_,h⟩:=h
    replace h:=gB.1 h
    obtain ⟨_,h⟩:=h
    replace h:=oB h
    obtain ⟨xv,hxv,h⟩:=h
    have hf:=wu hi hl hxv
    have fin:∀ xs,frS h0.length xs→((evA s y).bind fun a=>lenA a fun n=>firstA s a n (P.cellsOf e) fun new=>appendS s.h e (P.cellsOf e) xs new n fun v h=>some (setSl { s with h:=h } o.dst (.v (.sc v))))=some t→Fr A h0 t:=by
     intro xs hxs h
     replace h:=oB h
     obtain ⟨a,_,h⟩:=h
     obtain ⟨n,h⟩:=lenA_val h
     obtain ⟨new,h⟩:=firstA_val h
     obtain ⟨v,h2,hv,hp2,h⟩:=appendS_val hi.hp hxs h
     cases h
     exact (hi.heap hp2).set fun _ _ _=>wl hv
    rcases ZM h with ⟨_,_,_,_,_,h2⟩ | ⟨xs,rfl,h2⟩
    ·exact fin (.nils true) trivial h2
    ·exact fin _ (fr_sc hf) h2
   ·cases h
  ·cases hl
 ·rename_i n args ts ho
  obtain ⟨hn,hg⟩:=Bool.and_eq_true_iff.1 hl
  exact call_fr hr ho hn (.inl ⟨n,rfl,hg⟩) hi h
 ·rename_i f args ts _ ho
  obtain ⟨hn,hg⟩:=Bool.and_eq_true_iff.1 hl
  exact call_fr hr ho hn (.inr hg) hi h
 ·rename_i x ho
  unfold evOp at h
  rw [ho] at h
  cases h
 ·cases hl
theorem fresh_op (hr:yt A ev) (hl:YE A o=true) (hi:Fr A h0 s) (h:zj P A ev ops o s=some t):Fr A h0 t:=by
 unfold zj at h
 split at h
 ·exact UT hr hl hi h
 ·replace h:=oB h
  obtain ⟨d,_,h⟩:=h
  replace h:=oB h
  obtain ⟨g,_,h⟩:=h
  split at h
  ·split at h
   ·exact UT hr hl hi h
   ·cases h;exact hi.set fun _ _ _=>trivial
  ·cases h;exact hi.set fun _ _ _=>trivial
  ·cases h
theorem Vi (hr:yt A ev) (hl:ops.toList.all (YE A)=true):∀ {l:List Nat} {s t:St},Fr A h0 s→zQ P A ev ops l s=some t→Fr A h0 t
 | [],s,t,hi,h=>by cases h;exact hi
 | i::l,s,t,hi,h=>by
  cases hio:ops[i]? with
  | none=>
   have e:zQ P A ev ops (i::l) s=zQ P A ev ops l s:=by simp [zQ,hio]
   rw [e] at h
   exact Vi hr hl hi h
  | some o=>
   rw [yc hio] at h
   obtain ⟨s1,h1,h⟩:=oB h
   exact Vi hr hl (fresh_op hr (List.all_eq_true.1 hl o (by rw [Array.mem_toList_iff];exact Array.mem_of_getElem? hio)) hi h1) h
theorem Fr.maskR (hi:Fr A h0 s) (id:Nat):Fr A h0 (maskR A id s):=by
 unfold AM.maskR
 split
 ·exact hi
 ·rename_i p _
  refine ⟨hi.hp,fun d hd v hv=>?_,hi.lo⟩
  obtain ⟨_,h2⟩:=xU (fun _=>.u) s.sl p _ (fun d v hv=>by
   rw [Tr.get_map] at hv
   obtain ⟨y,hy,rfl⟩:=oM hv
   exact ⟨⟨y,hy⟩,.inl ⟨y,rfl⟩⟩) d v hv
  rcases h2 with ⟨_,rfl⟩ | h2
  ·trivial
  ·exact hi.sl d hd v h2
theorem Fr.maskAt (hi:Fr A h0 s) (blk:Nat):Fr A h0 (maskAt A blk s):=by
 unfold AM.maskAt
 split
 ·exact hi
 ·rename_i p q _
  refine ⟨hi.hp,fun d hd v hv=>?_,fun k hk cs hc=>?_⟩
  ·obtain ⟨_,h2⟩:=xU (fun _=>.u) s.sl p _ (fun d v hv=>by
    rw [Tr.get_map] at hv
    obtain ⟨y,hy,rfl⟩:=oM hv
    exact ⟨⟨y,hy⟩,.inl ⟨y,rfl⟩⟩) d v hv
   rcases h2 with ⟨_,rfl⟩ | h2
   ·trivial
   ·exact hi.sl d hd v h2
  ·obtain ⟨_,h2⟩:=xU (fun _=>none) s.lo q _ (fun d v hv=>by
    rw [Tr.get_map] at hv
    obtain ⟨y,hy,rfl⟩:=oM hv
    exact ⟨⟨y,hy⟩,.inl ⟨y,rfl⟩⟩) k (some cs) hc
   rcases h2 with ⟨_,e⟩ | h2
   ·cases e
   ·exact hi.lo k hk cs h2
def yj (A:FAn):Code→Bool
 | .region _ ops _=>ops.toList.all (YE A)
 | .seq a b=>yj A a&&yj A b
 | .cond _ a b=>yj A a&&yj A b
 | .block _ b=>yj A b
 | .scope b=>yj A b
 | .loop b=>yj A b
 | .skip | .label _ | .exit _ | .ret=>true
 | _=>false
theorem xm {dOk:FAn→Array Oper→Bool} (hr:yt A ev) (hj:A.rj=[]) {k:Nat} {R:Type} {x:R}:∀ (c:Code) (blk:Nat) {s:St} {K:Ex→St→Option R},yj A c=true→Fr A h0 s→evCode P A ev dOk k c blk s K=some x→∃ e t,K e t=some x∧Fr A h0 t
 | .skip,_,s,K,_,hi,h=>⟨_,_,h,hi⟩
 | .label _,_,s,K,_,hi,h=>⟨_,_,h,hi⟩
 | .exit _,_,s,K,_,hi,h=>⟨_,_,h,hi⟩
 | .ret,_,s,K,_,hi,h=>⟨_,_,h,hi⟩
 | .region id ops draw,_,s,K,hl,hi,h=>by
  unfold evCode evRegion at h
  obtain ⟨_,h⟩:=gB.1 h
  rw [hj] at h
  simp only [List.find?_nil] at h
  rw [xz] at h
  obtain ⟨t,ht,h⟩:=oB h
  exact ⟨_,_,h,(Vi hr (by simpa [yj] using hl) hi ht).maskR id⟩
 | .seq a b,blk,s,K,hl,hi,h=>by
  unfold yj at hl
  obtain ⟨ha,hb⟩:=Bool.and_eq_true_iff.1 hl
  unfold evCode at h
  obtain ⟨e,t,h,ht⟩:=xm hr hj a blk ha hi h
  unfold kSeq at h
  split at h
  ·exact xm hr hj b blk hb ht h
  ·exact ⟨_,_,h,ht⟩
 | .cond q a b,blk,s,K,hl,hi,h=>by
  unfold yj at hl
  obtain ⟨ha,hb⟩:=Bool.and_eq_true_iff.1 hl
  unfold evCode at h
  obtain ⟨v,_,h⟩:=oB h
  obtain ⟨v,rfl,h⟩:=asSc_some.1 h
  obtain ⟨v,rfl,h⟩:=asB_some.1 h
  rcases cond_some.1 h with ⟨_,h⟩ | ⟨_,h⟩
  ·exact xm hr hj a blk ha hi h
  ·exact xm hr hj b blk hb hi h
 | .block id b,blk,s,K,hl,hi,h=>by
  unfold yj at hl
  unfold evCode at h
  obtain ⟨e,t,h,ht⟩:=xm hr hj b id hl hi h
  unfold kBlock at h
  split at h
  ·rcases cond_some.1 h with ⟨_,h⟩ | ⟨_,h⟩<;>exact ⟨_,_,h,ht⟩
  ·exact ⟨_,_,h,ht⟩
 | .scope b,blk,s,K,hl,hi,h=>by
  unfold yj at hl
  unfold evCode at h
  exact xm hr hj b blk hl hi h
 | .loop b,blk,s,K,hl,hi,h=>by
  unfold yj at hl
  unfold evCode at h
  have key:∀ (n:Nat) {s:St},Fr A h0 s→loopN (maskAt A blk) (evCode P A ev dOk k b blk) K n s=some x→∃ e t,K e t=some x∧Fr A h0 t:=by
   intro n
   induction n with
   | zero=>intro s _ h;cases h
   | succ n ih=>
    intro s hi h
    unfold loopN at h
    obtain ⟨e,t,h,ht⟩:=xm hr hj b blk hl (hi.maskAt blk) h
    split at h
    ·exact ih ht h
    ·exact ⟨_,_,h,ht⟩
  exact key k hi h
 | .rangeFunc _ _ _ _,_,_,_,hl,_,_=>by cases hl
theorem fr_enter {fn:Func} {args:List AV} {h:AH} (hl:(A.fsh.all fun d=>decide (args.length≤d))=true):Fr A h (enterSt fn args h):=by
 refine ⟨List.prefix_refl _,fun d hd v hv=>?_,fun k hk cs hc=>?_⟩
 ·have h1:=Tr.ofL_get _ _ _ _ hv
  have h2:args.length≤d:=by simpa using List.all_eq_true.1 hl d (by simpa using hd)
  rw [List.getElem?_append_right (by simpa using h2),List.getElem?_replicate] at h1
  split at h1
  ·cases h1;trivial
  ·cases h1
 ·have h1:=Tr.ofL_get _ _ _ _ hc
  rw [List.getElem?_replicate] at h1
  split at h1<;>cases h1
variable {P : Program} {A : FAn} {ev : Ev} {ops : Array Oper} {o : Oper} {s t : St}
def ZX (A:FAn) (o:Oper):Bool:=
 match o.op with
 | .alloc _ | .box _ _ | .buildSlice _ _ _=>(match o.dst with | some d=>A.loc.contains d | none=>false)
 | .store _ x _=>(rootOf A x).isSome
 | .call { callee:=.value (.func n),.. }=>A.ro.contains n
 | .call { callee:=.value _,.. }=>A.rov
 | .call { callee:=.builtin .len,.. } | .call { callee:=.builtin .max,.. } | .call { callee:=.builtin .min,.. }=>true
 | .move _ | .assign _ | .pick _ _ _ | .build _ _ | .nilCheck _ | .binOp _ _ _ _ _ | .unOp _ _ _ | .convert _ _ _ | .makeFunc _ _ _ | .fieldAddr _ _ _ | .indexAddr _ _ _ | .extract _ _ | .load _ _ | .slice _ _ _ _ _ | .index _ _ _=>true
 | .panic _=>true
 | _=>false
theorem dead_op (ho:∃ x,o.op=.panic x):evOp P A ev o s some=none:=by
 unfold evOp
 obtain ⟨x,ho⟩:=ho
 rw [ho]
theorem dead_one (ho:∃ x,o.op=.panic x) (h:zj P A ev ops o s=some t):t.h=s.h:=by
 unfold zj at h
 split at h
 ·rw [dead_op ho] at h;cases h
 ·obtain ⟨d,_,h⟩:=oB h
  obtain ⟨g,_,h⟩:=oB h
  split at h
  ·split at h
   ·rw [dead_op ho] at h;cases h
   ·cases h;simp
  ·cases h;simp
  ·cases h
theorem US (hr:yt A ev) {f:Operand} {args:Array Operand} {ts:Array TypeId} (ho:o.op=.call { callee:=.value f,args:=args,argTypes:=ts }) (hv:A.rov=true) (h:evOp P A ev o s some=some t):t.h=s.h:=by
 rw [xJ ho] at h
 obtain ⟨⟨v,h'⟩,hq,h⟩:=oB h
 cases h
 have e:h'=s.h:=by
  unfold ww at hq
  replace hq:=oB hq
  obtain ⟨fv,hfv,hq⟩:=hq
  replace hq:=asSc_some.1 hq
  obtain ⟨fs,rfl,hq⟩:=hq
  replace hq:=asF_some.1 hq
  obtain ⟨g,nf,sh,cs,rfl,hq⟩:=hq
  replace hq:=oB hq
  obtain ⟨as,has,hq⟩:=hq
  replace hq:=oB hq
  obtain ⟨vs,hvs,hq⟩:=hq
  have ty:∀ {rs:List AV} {h1:AH},(typed P o.type rs fun v=>some (v,h1))=some (v,h')→h'=h1:=by
   intro rs h1 hq
   have e:=wh (fun v:SV=>some (v,h1)) P o.type rs some
   simp only [Option.bind_some] at e
   rw [← e] at hq
   obtain ⟨_,_,hq⟩:=oB hq
   cases hq;rfl
  clear hfv has hvs
  unfold callK at hq
  split at hq
  ·rename_i n
   replace hq:=gB.1 hq
   obtain ⟨hg,hq⟩:=hq
   have hn:A.ro.contains n=true:=by
    unfold okv at hg
    rw [hv] at hg
    have:=(Bool.and_eq_true_iff.1 hg).1
    simpa using this
   rcases cond_some.1 hq with ⟨_,hq⟩ | ⟨_,hq⟩
   ·split at hq
    ·exact ty (gB.1 (gB.1 hq).2).2
    ·obtain ⟨p,_,hq⟩:=oB hq
     exact ty (gB.1 hq).2
   ·obtain ⟨⟨rs,h1⟩,hp,hq⟩:=oB hq
    rw [ty hq]
    exact hr.1 n hn _ _ _ _ hp
  ·replace hq:=gB.1 hq
   obtain ⟨hg,_⟩:=hq
   unfold oky at hg
   rw [hv] at hg;cases hg
  ·cases hq
 rw [zB];exact e
theorem QA (hr:yt A ev) (hl:ZX A o=true) (h:zj P A ev ops o s=some t):t.h=s.h:=by
 have form:zu A o=.pure∨zu A o=.read→t.h=s.h:=fun hc=>by
  have n1:zu A o≠.loc:=by rcases hc with h | h<;>rw [h]<;>intro e<;>cases e
  have n2:zu A o≠.new:=by rcases hc with h | h<;>rw [h]<;>intro e<;>cases e
  obtain ⟨⟨v,H,e,_⟩,k⟩:=yA n1 n2 h
  exact k (by simpa using hc)
 have new:zu A o=.new→t.h=s.h:=fun hc=>by
  obtain ⟨d,hd,hcase⟩:=Yk hc h
  rcases hcase with ⟨a,z,rfl,_⟩ | rfl
  ·rfl
  ·simp
 have eff:(yf A o=.ro∨∃ k,yf A o=.stL k)→t.h=s.h:=fun hc=>by
  have g:∀ {RL RH L v},Does (zj P A ev ops o) (Sees ops o s) o s t RL RH L id v→t.h=s.h:=fun d=>by rw [d.eq,zB];rfl
  have no:yf A o≠.other:=by rcases hc with h | ⟨_,h⟩<;>rw [h]<;>intro e<;>cases e
  rcases TI hr no h with ⟨_,_,_,_,e⟩ | ⟨_,_,_,_,e⟩
  ·rcases hc with h | ⟨k,h⟩<;>rw [h] at e<;>exact g e.2
  ·exact g e.2
 unfold ZX at hl
 split at hl
 case h_4 x y ho=>
  obtain ⟨k,hk⟩:=Option.isSome_iff_exists.1 hl
  exact eff (.inr ⟨k,by unfold yf;rw [ho];simp only [hk]⟩)
 case h_5 n args ts ho=>
  exact eff (.inl (by unfold yf;rw [ho];simp only [hl,cond_true]))
 case h_6 f args ts _ ho=>
  unfold zj at h
  split at h
  ·exact US hr ho hl h
  ·obtain ⟨d,_,h⟩:=oB h
   obtain ⟨g,_,h⟩:=oB h
   split at h
   ·split at h
    ·exact US hr ho hl h
    ·cases h;simp
   ·cases h;simp
   ·cases h
 case h_1 ho=>
  split at hl
  ·rename_i d hd;exact new (by unfold zu;rw [ho];simp only [hd,hl,cond_true])
  ·cases hl
 case h_2 ho=>
  split at hl
  ·rename_i d hd;exact new (by unfold zu;rw [ho];simp only [hd,hl,cond_true])
  ·cases hl
 case h_3 ho=>
  split at hl
  ·rename_i d hd;exact new (by unfold zu;rw [ho];simp only [hd,hl,cond_true])
  ·cases hl
 all_goals first
  | (cases hl;done)
  | (rename_i x ho;exact dead_one ⟨x,ho⟩ h)
  | (rename_i ho;exact form (by unfold zu;rw [ho];first | exact .inl rfl | exact .inr rfl))
  | (rename_i ty x ho;exact form (VE (by unfold Ys;rw [ho])))
theorem Ww (hr:yt A ev) (hl:ops.toList.all (ZX A)=true):∀ {l:List Nat} {s t:St},zQ P A ev ops l s=some t→t.h=s.h
 | [],s,t,h=>by cases h;rfl
 | i::l,s,t,h=>by
  cases hi:ops[i]? with
  | none=>
   have e:zQ P A ev ops (i::l) s=zQ P A ev ops l s:=by simp [zQ,hi]
   rw [e] at h
   exact Ww hr hl h
  | some o=>
   rw [yc hi] at h
   obtain ⟨s1,h1,h⟩:=oB h
   rw [Ww hr hl h]
   exact QA hr (List.all_eq_true.1 hl o (by rw [Array.mem_toList_iff];exact Array.mem_of_getElem? hi)) h1
def yn (A:FAn):Code→Bool
 | .region _ ops _=>ops.toList.all (ZX A)
 | .seq a b=>yn A a&&yn A b
 | .cond _ a b=>yn A a&&yn A b
 | .block _ b=>yn A b
 | .loop b=>yn A b
 | .skip | .label _ | .exit _ | .ret=>true
 | _=>false
theorem xr {dOk:FAn→Array Oper→Bool} (hr:yt A ev) (hj:A.rj=[]) {k:Nat} {R:Type} {x:R}:∀ (c:Code) (blk:Nat) {s:St} {K:Ex→St→Option R},yn A c=true→evCode P A ev dOk k c blk s K=some x→∃ e t,K e t=some x∧t.h=s.h
 | .skip,_,s,K,_,h=>⟨_,_,h,rfl⟩
 | .label _,_,s,K,_,h=>⟨_,_,h,rfl⟩
 | .exit _,_,s,K,_,h=>⟨_,_,h,rfl⟩
 | .ret,_,s,K,_,h=>⟨_,_,h,rfl⟩
 | .region id ops draw,_,s,K,hl,h=>by
  unfold evCode evRegion at h
  obtain ⟨_,h⟩:=gB.1 h
  rw [hj] at h
  simp only [List.find?_nil] at h
  rw [xz] at h
  obtain ⟨t,ht,h⟩:=oB h
  refine ⟨_,_,h,?_⟩
  have e:(maskR A id t).h=t.h:=by unfold maskR;split<;>rfl
  rw [e]
  exact Ww hr (by simpa [yn] using hl) ht
 | .seq a b,blk,s,K,hl,h=>by
  unfold yn at hl
  obtain ⟨ha,hb⟩:=Bool.and_eq_true_iff.1 hl
  unfold evCode at h
  obtain ⟨e,t,h,ht⟩:=xr hr hj a blk ha h
  unfold kSeq at h
  split at h
  ·obtain ⟨e,t2,h,ht2⟩:=xr hr hj b blk hb h
   exact ⟨e,t2,h,ht2.trans ht⟩
  ·exact ⟨_,_,h,ht⟩
 | .cond q a b,blk,s,K,hl,h=>by
  unfold yn at hl
  obtain ⟨ha,hb⟩:=Bool.and_eq_true_iff.1 hl
  unfold evCode at h
  obtain ⟨v,_,h⟩:=oB h
  obtain ⟨v,rfl,h⟩:=asSc_some.1 h
  obtain ⟨v,rfl,h⟩:=asB_some.1 h
  rcases cond_some.1 h with ⟨_,h⟩ | ⟨_,h⟩
  ·exact xr hr hj a blk ha h
  ·exact xr hr hj b blk hb h
 | .block id b,blk,s,K,hl,h=>by
  unfold yn at hl
  unfold evCode at h
  obtain ⟨e,t,h,ht⟩:=xr hr hj b id hl h
  unfold kBlock at h
  split at h
  ·rcases cond_some.1 h with ⟨_,h⟩ | ⟨_,h⟩<;>exact ⟨_,_,h,ht⟩
  ·exact ⟨_,_,h,ht⟩
 | .loop b,blk,s,K,hl,h=>by
  unfold yn at hl
  unfold evCode at h
  have key:∀ (n:Nat) {s:St},loopN (maskAt A blk) (evCode P A ev dOk k b blk) K n s=some x→∃ e t,K e t=some x∧t.h=s.h:=by
   intro n
   induction n with
   | zero=>intro s h;cases h
   | succ n ih=>
    intro s h
    unfold loopN at h
    obtain ⟨e,t,h,ht⟩:=xr hr hj b blk hl h
    have e1:(maskAt A blk s).h=s.h:=by unfold maskAt;split<;>rfl
    split at h
    ·obtain ⟨e2,t2,h,ht2⟩:=ih h
     exact ⟨e2,t2,h,ht2.trans (ht.trans e1)⟩
    ·exact ⟨_,_,h,ht.trans e1⟩
  exact key k h
 | .rangeFunc _ _ _ _,_,_,_,hl,_=>by cases hl
def Qg (A:FAn) (o:Oper):Bool:=ZX A o||(match o.op with
 | .alloc _ | .box _ _ | .buildSlice _ _ _ | .makeSlice _ _ _=>true
 | .call { callee:=.value (.func n),.. }=>A.gr.contains n&&!(A.iso.contains n)
 | _=>false)
theorem grows_op (hr:yt A ev) (hl:Qg A o=true) (h:zj P A ev ops o s=some t):s.h <+: t.h:=by
 rcases Bool.or_eq_true_iff.1 hl with hl | hl
 ·rw [QA hr hl h];exact List.prefix_refl _
 have push:∀ {d:Option Tmp} {v:SV} {O:AO},s.h <+: (setSl { s with h:=s.h++[O] } d v).h:=fun {d v O}=>by rw [zB];exact List.prefix_append _ _
 have new:∀ {d:Tmp} {v:SV} {z:List Sc},s.h <+: (newLocal s d v z).h:=fun {d v z}=>List.prefix_refl _
 have skip:some (setSl s o.dst .no)=some t→s.h <+: t.h:=fun h=>by cases h;rw [zB];exact List.prefix_refl _
 have take:evOp P A ev o s some=some t→s.h <+: t.h:=by
  intro h
  split at hl
  ·rename_i e ho
   unfold evOp at h
   rw [ho] at h
   simp only [setK_eq,newLocalK_eq] at h
   obtain ⟨d,hd,h⟩:=oB h
   obtain ⟨z,hz,h⟩:=oB h
   obtain ⟨_,h⟩:=gB.1 h
   rcases cond_some.1 h with ⟨_,h⟩ | ⟨_,h⟩
   ·cases h;exact new
   ·cases h;exact push
  ·rename_i e x ho
   unfold evOp at h
   rw [ho] at h
   simp only [setK_eq,newLocalK_eq] at h
   obtain ⟨d,hd,h⟩:=oB h
   obtain ⟨z,hz,h⟩:=oB h
   obtain ⟨_,h⟩:=gB.1 h
   rcases cond_some.1 h with ⟨_,h⟩ | ⟨_,h⟩
   ·cases h;exact new
   ·cases h;exact push
  ·rename_i ty n ps ho
   unfold evOp at h
   rw [ho] at h
   simp only [setK_eq,newLocalK_eq] at h
   obtain ⟨d,hd,h⟩:=oB h
   obtain ⟨e,_,h⟩:=oB h
   obtain ⟨z,hz,h⟩:=oB h
   obtain ⟨_,h⟩:=gB.1 h
   obtain ⟨vs,_,h⟩:=oB h
   obtain ⟨cs,_,h⟩:=oB h
   rcases cond_some.1 h with ⟨_,h⟩ | ⟨_,h⟩
   ·cases h;exact new
   ·cases h;exact push
  ·rename_i ty lo mo ho
   unfold evOp at h
   rw [ho] at h
   simp only [setK_eq] at h
   obtain ⟨e,_,h⟩:=oB h
   obtain ⟨z,hz,h⟩:=oB h
   obtain ⟨l,_,h⟩:=oB h
   obtain ⟨m,_,h⟩:=oB h
   split at h
   ·obtain ⟨_,h⟩:=gB.1 h
    cases h;exact push
   ·cases h
  ·rename_i n args ts ho
   obtain ⟨v,tl,e⟩:=wz (ops:=ops) (o:={ o with guard:=none }) hr (by unfold YU;rw [ho];exact hl) (show zj P A ev ops { o with guard:=none } s=some t from h)
   rw [e,zB];exact List.prefix_append _ _
  ·cases hl
 unfold zj at h
 split at h
 ·exact take h
 ·obtain ⟨d,_,h⟩:=oB h
  obtain ⟨g,_,h⟩:=oB h
  split at h
  ·split at h
   ·exact take h
   ·exact skip h
  ·exact skip h
  ·cases h
theorem Vq (hr:yt A ev) (hl:ops.toList.all (Qg A)=true):∀ {l:List Nat} {s t:St},zQ P A ev ops l s=some t→s.h <+: t.h
 | [],s,t,h=>by cases h;exact List.prefix_refl _
 | i::l,s,t,h=>by
  cases hi:ops[i]? with
  | none=>
   have e:zQ P A ev ops (i::l) s=zQ P A ev ops l s:=by simp [zQ,hi]
   rw [e] at h
   exact Vq hr hl h
  | some o=>
   rw [yc hi] at h
   obtain ⟨s1,h1,h⟩:=oB h
   exact (grows_op hr (List.all_eq_true.1 hl o (by rw [Array.mem_toList_iff];exact Array.mem_of_getElem? hi)) h1).trans (Vq hr hl h)
def yD (A:FAn):Code→Bool
 | .region _ ops _=>ops.toList.all (Qg A)
 | .seq a b=>yD A a&&yD A b
 | .cond _ a b=>yD A a&&yD A b
 | .block _ b=>yD A b
 | .loop b=>yD A b
 | .skip | .label _ | .exit _ | .ret=>true
 | _=>false
theorem xH {dOk:FAn→Array Oper→Bool} (hr:yt A ev) (hj:A.rj=[]) {k:Nat} {R:Type} {x:R}:∀ (c:Code) (blk:Nat) {s:St} {K:Ex→St→Option R},yD A c=true→evCode P A ev dOk k c blk s K=some x→∃ e t,K e t=some x∧s.h <+: t.h
 | .skip,_,s,K,_,h=>⟨_,_,h,List.prefix_refl _⟩
 | .label _,_,s,K,_,h=>⟨_,_,h,List.prefix_refl _⟩
 | .exit _,_,s,K,_,h=>⟨_,_,h,List.prefix_refl _⟩
 | .ret,_,s,K,_,h=>⟨_,_,h,List.prefix_refl _⟩
 | .region id ops draw,_,s,K,hl,h=>by
  unfold evCode evRegion at h
  obtain ⟨_,h⟩:=gB.1 h
  rw [hj] at h
  simp only [List.find?_nil] at h
  rw [xz] at h
  obtain ⟨t,ht,h⟩:=oB h
  refine ⟨_,_,h,?_⟩
  have e:(maskR A id t).h=t.h:=by unfold maskR;split<;>rfl
  rw [e]
  exact Vq hr (by simpa [yD] using hl) ht
 | .seq a b,blk,s,K,hl,h=>by
  unfold yD at hl
  obtain ⟨ha,hb⟩:=Bool.and_eq_true_iff.1 hl
  unfold evCode at h
  obtain ⟨e,t,h,ht⟩:=xH hr hj a blk ha h
  unfold kSeq at h
  split at h
  ·obtain ⟨e,t2,h,ht2⟩:=xH hr hj b blk hb h
   exact ⟨e,t2,h,ht.trans ht2⟩
  ·exact ⟨_,_,h,ht⟩
 | .cond q a b,blk,s,K,hl,h=>by
  unfold yD at hl
  obtain ⟨ha,hb⟩:=Bool.and_eq_true_iff.1 hl
  unfold evCode at h
  obtain ⟨v,_,h⟩:=oB h
  obtain ⟨v,rfl,h⟩:=asSc_some.1 h
  obtain ⟨v,rfl,h⟩:=asB_some.1 h
  rcases cond_some.1 h with ⟨_,h⟩ | ⟨_,h⟩
  ·exact xH hr hj a blk ha h
  ·exact xH hr hj b blk hb h
 | .block id b,blk,s,K,hl,h=>by
  unfold yD at hl
  unfold evCode at h
  obtain ⟨e,t,h,ht⟩:=xH hr hj b id hl h
  unfold kBlock at h
  split at h
  ·rcases cond_some.1 h with ⟨_,h⟩ | ⟨_,h⟩<;>exact ⟨_,_,h,ht⟩
  ·exact ⟨_,_,h,ht⟩
 | .loop b,blk,s,K,hl,h=>by
  unfold yD at hl
  unfold evCode at h
  have key:∀ (n:Nat) {s:St},loopN (maskAt A blk) (evCode P A ev dOk k b blk) K n s=some x→∃ e t,K e t=some x∧s.h <+: t.h:=by
   intro n
   induction n with
   | zero=>intro s h;cases h
   | succ n ih=>
    intro s h
    unfold loopN at h
    obtain ⟨e,t,h,ht⟩:=xH hr hj b blk hl h
    have e1:(maskAt A blk s).h=s.h:=by unfold maskAt;split<;>rfl
    rw [e1] at ht
    split at h
    ·obtain ⟨e2,t2,h,ht2⟩:=ih h
     exact ⟨e2,t2,h,ht.trans ht2⟩
    ·exact ⟨_,_,h,ht⟩
  exact key k h
 | .rangeFunc _ _ _ _,_,_,_,hl,_=>by cases hl
def roOk (P:Program) (An:FuncId→FAn) (f:FuncId):Bool:=((An f).ro.all fun n=>match (P.funcs[n]?).bind (·.body) with | some c=>yn (An n) c | none=>true)&&(frOk P An f&&(An f).gr.all fun n=>match (P.funcs[n]?).bind (·.body) with | some c=>yD (An n) c||yj (An n) c | none=>true)
theorem ro_ev {dOk:FAn→Array Oper→Bool} {An:FuncId→FAn} (hj:∀ f,(An f).rj=[]) (h:∀ f,roOk P An f=true):∀ k f,yt (An f) (evF P An dOk k)
 | 0,f=>⟨fun n _ as h rs h' he=>(by cases he),fr_ev hj (fun f=>(Bool.and_eq_true_iff.1 (Bool.and_eq_true_iff.1 (h f)).2).1) 0 f,fun n _ as h rs h' he=>(by cases he)⟩
 | k+1,f=>by
  refine ⟨fun n hn as h0 rs h' he=>?_,fr_ev hj (fun f=>(Bool.and_eq_true_iff.1 (Bool.and_eq_true_iff.1 (h f)).2).1) (k+1) f,fun n hn as h0 rs h' he=>?_⟩
  ·simp only [evF] at he
   obtain ⟨fn,hfn,he⟩:=oB he
   obtain ⟨code,hcode,he⟩:=oB he
   obtain ⟨_,he⟩:=gB.1 he
   have hl:yn (An n) code=true:=by
    have h1:=(Bool.and_eq_true_iff.1 (show (_&&_)=true from h f)).1
    have h2:=List.all_eq_true.1 h1 n (by simpa using hn)
    rw [hfn] at h2
    simp only [Option.bind_some,hcode] at h2
    exact h2
   obtain ⟨e,t,hk,ht⟩:=xr (ro_ev hj h k n) (hj n) code 0 hl he
   have res:∀ {l:List ResultVar} {c:List AV→Option (List AV×AH)} {r:List AV×AH},resOf P t l c=some r→∃ vs,c vs=some r:=by
    intro l
    induction l with
    | nil=>intro c r h;exact ⟨_,h⟩
    | cons x l ih=>
     intro c r h
     cases x with
     | tmp d=>
      simp only [resOf] at h
      obtain ⟨_,_,h⟩:=oB h
      obtain ⟨_,_,h⟩:=oB h
      obtain ⟨_,h⟩:=ih h;exact ⟨_,h⟩
     | cell a ty=>
      simp only [resOf] at h
      obtain ⟨_,h⟩:=gB.1 h
      obtain ⟨_,_,h⟩:=oB h
      rcases cond_some.1 h with ⟨_,h⟩ | ⟨_,h⟩
      ·obtain ⟨_,_,h⟩:=yy h;obtain ⟨_,h⟩:=ih h;exact ⟨_,h⟩
      ·obtain ⟨_,_,h⟩:=yL h;obtain ⟨_,h⟩:=ih h;exact ⟨_,h⟩
   have fin:(resOf P t fn.results.toList fun vs=>some (vs,t.h))=some (rs,h')→h'=h0:=fun hk=>by
    obtain ⟨vs,hq⟩:=res hk
    cases hq
    exact ht
   unfold kFin at hk
   split at hk
   ·exact fin hk
   ·exact fin hk
   ·cases hk
  ·simp only [evF] at he
   obtain ⟨fn,hfn,he⟩:=oB he
   obtain ⟨code,hcode,he⟩:=oB he
   obtain ⟨hargs,he⟩:=gB.1 he
   have hl:(yD (An n) code||yj (An n) code)=true:=by
    have h1:=(Bool.and_eq_true_iff.1 (Bool.and_eq_true_iff.1 (show (_&&_)=true from h f)).2).2
    have h2:=List.all_eq_true.1 h1 n (by simpa using hn)
    rw [hfn] at h2
    simp only [Option.bind_some,hcode] at h2
    exact h2
   have hcode:∃ e t,kFin P fn e t=some (rs,h')∧h0 <+: t.h:=by
    rcases Bool.or_eq_true_iff.1 hl with hl | hl
    ·exact xH (ro_ev hj h k n) (hj n) code 0 hl he
    ·obtain ⟨e,t,hk,ht⟩:=xm (ro_ev hj h k n) (hj n) code 0 hl (fr_enter (Bool.and_eq_true_iff.1 hargs).2) he
     exact ⟨e,t,hk,ht.hp⟩
   obtain ⟨e,t,hk,ht⟩:=hcode
   have res:∀ {l:List ResultVar} {c:List AV→Option (List AV×AH)} {r:List AV×AH},resOf P t l c=some r→∃ vs,c vs=some r:=by
    intro l
    induction l with
    | nil=>intro c r h;exact ⟨_,h⟩
    | cons x l ih=>
     intro c r h
     cases x with
     | tmp d=>
      simp only [resOf] at h
      obtain ⟨_,_,h⟩:=oB h
      obtain ⟨_,_,h⟩:=oB h
      obtain ⟨_,h⟩:=ih h;exact ⟨_,h⟩
     | cell a ty=>
      simp only [resOf] at h
      obtain ⟨_,h⟩:=gB.1 h
      obtain ⟨_,_,h⟩:=oB h
      rcases cond_some.1 h with ⟨_,h⟩ | ⟨_,h⟩
      ·obtain ⟨_,_,h⟩:=yy h;obtain ⟨_,h⟩:=ih h;exact ⟨_,h⟩
      ·obtain ⟨_,_,h⟩:=yL h;obtain ⟨_,h⟩:=ih h;exact ⟨_,h⟩
   have fin:(resOf P t fn.results.toList fun vs=>some (vs,t.h))=some (rs,h')→h0 <+: h':=fun hk=>by
    obtain ⟨vs,hq⟩:=res hk
    cases hq
    exact ht
   unfold kFin at hk
   split at hk
   ·exact fin hk
   ·exact fin hk
   ·cases hk
end Go.AM
namespace Go.TM
open Go Go.AM Go.RowKit
def InR:(t:Ty)→t.T→Prop
 | .int k,n=>k.min≤(show Int from n)∧(show Int from n)≤k.max
 | .bool,_=>True
 | .str,_=>True
 | .list _ t,xs=>(show List t.T from xs).length≤maxLen∧∀ x∈(show List t.T from xs),InR t x
 | .pair a b,p=>InR a p.1∧InR b p.2
 | .unit,_=>True
def Tj (P:Program):Nat→List Field→Nat→Bool
 | off,[],n=>Nat.beq off n
 | off,f::r,n=>Nat.beq f.offset off&&Tj P (off+P.cellsOf f.type) r n
def YL (P:Program):Nat→TypeId→Bool
 | 0,_=>false
 | d+1,t=>
  match P.underlying t with
  | some (.int _) | some .bool | some .string=>Nat.beq (P.cellsOf t) 1
  | some (.slice e)=>Nat.beq (P.cellsOf t) 1&&!(Nat.beq (P.cellsOf e) 0)&&YL P d e&&(match ZF P d e with | some τ=>Nat.beq τ.size (P.cellsOf e) | none=>false)
  | some (.struct fs)=>Tj P 0 fs.toList (P.cellsOf t)&&fs.toList.all fun f=>YL P d f.type
  | some (.array n e)=>Nat.beq (P.cellsOf t) (n*P.cellsOf e)&&YL P d e
  | _=>false
def ZU (h:AH):Nat→Prop:=fun i=>i < h.length
section
variable {H : Type} {enc : TypeId × Value → H} {P : Program} {w : World}
theorem ZT {α β:Type} {f:α→Option β}:∀ {l:List α} {ys:List β},l.mapM f=some ys→ys.length=l.length∧∀ (i:Nat) x,l[i]?=some x→∃ y,f x=some y
 | [],ys,h=>by simp at h;subst h;simp
 | a::l,ys,h=>by
  simp only [List.mapM_cons,Option.bind_eq_bind,Option.bind_eq_some_iff] at h
  obtain ⟨y,h1,zs,h2,h3⟩:=h
  cases h3
  obtain ⟨h4,h5⟩:=ZT h2
  refine ⟨by simp [h4],fun i x hx=>?_⟩
  cases i with
  | zero=>simp at hx;subst hx;exact ⟨y,h1⟩
  | succ i=>exact h5 i x (by simpa using hx)
structure Grow (P:Program) (w:World) (I:List AM.Loc) (h:AH) (I':List AM.Loc) (h':AH):Prop where
 pi:I <+: I'
 ph:h <+: h'
 hr:HRel P w.heap.size I' h' w
theorem Grow.trans {I I1 I2:List AM.Loc} {h h1 h2:AH} (a:Grow P w I h I1 h1) (b:Grow P w I1 h1 I2 h2):Grow P w I h I2 h2:=⟨a.pi.trans b.pi,a.ph.trans b.ph,b.hr⟩
theorem Grow.ext {I I':List AM.Loc} {h h':AH} (g:Grow P w I h I' h'):Ext h (ZU h) h' (ZU h'):=by
 obtain ⟨t,rfl⟩:=g.ph
 exact ⟨fun i hi=>by unfold ZU at *;simp;omega,fun i hi=>List.getElem?_append_left hi⟩
def Got (P:Program) (w:World) (I:List AM.Loc) (h:AH) (τ:Ty) (cs:List Value):Prop:=
 ∃ (x:τ.T) (I':List AM.Loc) (h':AH) (scs:List Sc),Grow P w I h I' h'∧ScRels I' scs cs∧DR P h' (ZU h') τ x scs∧InR τ x
theorem YC (b o n:Nat):Addr.add ⟨b,o,none⟩ n=⟨b,o+n,none⟩:=Addr.add_lit b o n
theorem Vn {a:Addr} {n:Nat} {vs:List Value} (h:w.cells? 0 a n=some vs):vs.length=n∧∀ (j:Nat) v,vs[j]?=some v→w.cell? (a.add j)=some v:=by
 unfold World.cells? at h
 rw [if_pos (Nat.zero_le _)] at h
 have key:∀ (k m:Nat) (ys:List Value),(List.range' k m).mapM (fun i=>w.cell? (a.add i))=some ys→ys.length=m∧∀ (j:Nat) v,ys[j]?=some v→w.cell? (a.add (k+j))=some v:=by
  intro k m
  induction m generalizing k with
  | zero=>intro ys h;simp at h;subst h;simp
  | succ m ih=>
   intro ys h
   simp only [List.range'_succ,List.mapM_cons,Option.bind_eq_bind,Option.bind_eq_some_iff] at h
   obtain ⟨y,h1,zs,h2,h3⟩:=h
   cases h3
   obtain ⟨h4,h5⟩:=ih (k+1) zs h2
   refine ⟨by simp [h4],fun j v hj=>?_⟩
   cases j with
   | zero=>simp at hj;subst hj;simpa using h1
   | succ j=>have:=h5 j v (by simpa using hj);rwa [show k+1+j=k+(j+1) by omega] at this
 rw [List.range_eq_range'] at h
 obtain ⟨h1,h2⟩:=key 0 n vs h
 exact ⟨h1,fun j v hj=>by simpa using h2 j v hj⟩
theorem pairs_cons {a:Ty} {r:List Ty} (h:r≠[]):VO (a::r)=.pair a (VO r):=by
 cases r with
 | nil=>exact absurd rfl h
 | cons b r=>rfl
theorem QH {τs:List Ty} {css:List (List Value)}:∀ {I:List AM.Loc} {h:AH},HRel P w.heap.size I h w→τs.length=css.length→(∀ (i:Nat) τ cs,τs[i]?=some τ→css[i]?=some cs→∀ I h,HRel P w.heap.size I h w→Got P w I h τ cs)→Got P w I h (VO τs) css.flatten:=by
 induction τs generalizing css with
 | nil=>
  intro I h hr hl _
  cases css with
  | nil=>exact ⟨(),I,h,[],⟨List.prefix_refl _,List.prefix_refl _,hr⟩,by simp [ScRels],rfl,trivial⟩
  | cons _ _=>simp at hl
 | cons τ τs ih=>
  intro I h hr hl hall
  cases css with
  | nil=>simp at hl
  | cons cs css=>
   obtain ⟨x,I1,h1,s1,g1,r1,d1,i1⟩:=hall 0 τ cs rfl rfl I h hr
   by_cases hn:τs=[]
   ·subst hn
    cases css with
    | cons _ _=>simp at hl
    | nil=>exact ⟨x,I1,h1,s1,g1,by simpa using r1,d1,i1⟩
   ·obtain ⟨y,I2,h2,s2,g2,r2,d2,i2⟩:=ih (css:=css) g1.hr (by simpa using hl) fun i τ cs h1 h2=>hall (i+1) τ cs (by simpa using h1) (by simpa using h2)
    rw [pairs_cons hn]
    exact ⟨(x,y),I2,h2,s1++s2,g1.trans g2,by rw [List.flatten_cons];exact (ScRels.mono g2.pi _ _ r1).append r2,⟨s1,s2,rfl,d1.mono g2.ext,d2⟩,i1,i2⟩
theorem mapO_get {α β:Type} {f:α→Option β}:∀ {l:List α} {ys:List β},mapO f l=some ys→ys.length=l.length∧∀ (i:Nat) x y,l[i]?=some x→ys[i]?=some y→f x=some y
 | [],ys,h=>by simp [mapO] at h;subst h;simp
 | a::l,ys,h=>by
  simp only [mapO,Option.bind_eq_some_iff] at h
  obtain ⟨y,h1,zs,h2,h3⟩:=h
  cases h3
  obtain ⟨h4,h5⟩:=mapO_get h2
  refine ⟨by simp [h4],fun i x z hx hz=>?_⟩
  cases i with
  | zero=>simp at hx hz;subst hx;subst hz;exact h1
  | succ i=>exact h5 i x z (by simpa using hx) (by simpa using hz)
theorem contig_flat {fs:List Field}:∀ {off n:Nat} {cs:List Value},Tj P off fs n=true→cs.length=n→(fs.map fun f=>(cs.drop f.offset).take (P.cellsOf f.type)).flatten=cs.drop off:=by
 induction fs with
 | nil=>intro off n cs h hl;have:=zH h;simp;omega
 | cons f fs ih=>
  intro off n cs h hl
  simp only [Tj,Bool.and_eq_true] at h
  have h1:=zH h.1
  rw [List.map_cons,List.flatten_cons,ih h.2 hl,h1,← List.drop_drop,List.take_append_drop]
theorem arr_flat {z:Nat} {cs:List Value}:∀ (m k:Nat),cs.length=(k+m)*z→((List.range' k m).map fun i=>(cs.drop (i*z)).take z).flatten=cs.drop (k*z)
 | 0,k,h=>by simp;rw [h];exact Nat.le_refl _
 | m+1,k,h=>by
  rw [List.range'_succ,List.map_cons,List.flatten_cons,arr_flat m (k+1) (by rw [h];congr 1;omega),Nat.succ_mul,← List.drop_drop,List.take_append_drop]
section
variable {sp : Nat → Bool} {fuel : Nat} {t : TypeId} {cs : List Value} {x : DataW H × List MemPlace}
theorem trod_int {k:IntKind} (hu:P.underlying t=some (.int k)) (hx:DataW.trod enc P w 0 sp true (fuel+1) t cs=some x):∃ n:Int,cs=[.int k n]∧k.min≤n∧n≤k.max:=by
 unfold DataW.trod at hx
 rw [hu] at hx
 split at hx
 all_goals first | (cases ‹some (TypeDesc.int k)=_›;done) | skip
 all_goals first | (cases hx;done) | skip
 rename_i heq
 have heq':=heq
 simp only [Option.some.injEq,TypeDesc.int.injEq] at heq'
 subst heq'
 split at hx
 ·rename_i hw
  obtain ⟨rfl,hw⟩:=hw
  simp only [Lit.wf,Bool.and_eq_true,decide_eq_true_eq] at hw
  exact ⟨_,rfl,hw⟩
 ·cases hx
theorem trod_bool (hu:P.underlying t=some .bool) (hx:DataW.trod enc P w 0 sp true (fuel+1) t cs=some x):∃ b:Bool,cs=[.bool b]:=by
 unfold DataW.trod at hx
 rw [hu] at hx
 split at hx
 all_goals first | (cases ‹some TypeDesc.bool=_›;done) | skip
 all_goals first | (cases hx;done) | skip
 exact ⟨_,rfl⟩
theorem trod_str (hu:P.underlying t=some .string) (hx:DataW.trod enc P w 0 sp true (fuel+1) t cs=some x):∃ b:ByteArray,cs=[.string b]:=by
 unfold DataW.trod at hx
 rw [hu] at hx
 split at hx
 all_goals first | (cases ‹some TypeDesc.string=_›;done) | skip
 all_goals first | (cases hx;done) | skip
 exact ⟨_,rfl⟩
theorem trod_struct {fs:Array Field} (hu:P.underlying t=some (.struct fs)) (hx:DataW.trod enc P w 0 sp true (fuel+1) t cs=some x):cs.length=P.cellsOf t∧∃ ys,(fs.toList.mapM fun f=>DataW.trod enc P w 0 sp true fuel f.type ((cs.drop f.offset).take (P.cellsOf f.type)))=some ys:=by
 unfold DataW.trod at hx
 rw [hu] at hx
 simp only at hx
 split at hx
 ·rename_i hl
  obtain ⟨ys,h1,_⟩:=oM hx
  exact ⟨hl,ys,h1⟩
 ·cases hx
theorem trod_array {n:Nat} {e:TypeId} (hu:P.underlying t=some (.array n e)) (hx:DataW.trod enc P w 0 sp true (fuel+1) t cs=some x):cs.length=P.cellsOf t∧∃ ys,((List.range n).mapM fun i=>DataW.trod enc P w 0 sp true fuel e ((cs.drop (i*P.cellsOf e)).take (P.cellsOf e)))=some ys:=by
 unfold DataW.trod at hx
 rw [hu] at hx
 simp only at hx
 split at hx
 ·rename_i hl
  obtain ⟨ys,h1,_⟩:=oM hx
  exact ⟨hl,ys,h1⟩
 ·cases hx
theorem trod_slice {e:TypeId} (hu:P.underlying t=some (.slice e)) (hx:DataW.trod enc P w 0 (fun _=>true) true (fuel+1) t cs=some x):cs=[.slice none 0 0]∨∃ a len cap,cs=[.slice (some a) len cap]∧len≤cap∧cap≤maxLen∧
  ∀ i,i < cap→∃ vs y,w.cells? 0 (a.add (i*P.cellsOf e)) (P.cellsOf e)=some vs∧DataW.trod enc P w 0 (fun _=>true) true fuel e vs=some y:=by
 unfold DataW.trod at hx
 rw [hu] at hx
 split at hx
 all_goals first | (cases ‹some (TypeDesc.slice e)=_›;done) | skip
 all_goals first | (cases hx;done) | skip
 ·exact .inl rfl
 ·rename_i e' a len cap heq
  have heq':=heq
  simp only [Option.some.injEq,TypeDesc.slice.injEq] at heq'
  subst heq'
  simp only at hx
  split at hx
  ·rename_i hl
   obtain ⟨ys,h1,hx⟩:=oB hx
   obtain ⟨zs,h2,_⟩:=oM hx
   simp only [if_true] at h2
   refine .inr ⟨_,len,cap,rfl,hl.2.1,hl.2.2,fun i hi=>?_⟩
   rcases Nat.lt_or_ge i len with hi2 | hi2
   ·obtain ⟨_,h3⟩:=ZT h1
    obtain ⟨y,h4⟩:=h3 i i (by simp [hi2])
    obtain ⟨vs,h5,h6⟩:=oB h4
    exact ⟨vs,y,h5,h6⟩
   ·obtain ⟨_,h3⟩:=ZT h2
    obtain ⟨y,h4⟩:=h3 (i - len) (i - len) (by rw [List.getElem?_range (by omega)])
    rw [show len+(i - len)=i by omega] at h4
    obtain ⟨vs,h5,h6⟩:=oB h4
    exact ⟨vs,y,h5,h6⟩
  ·cases hx
end
theorem hr_row {I:List AM.Loc} {h:AH} (hr:HRel P w.heap.size I h w) {e:TypeId} {cs:List Sc} {b o:Nat} (hb:b < w.heap.size) (hc:∀ (j:Nat) c,cs[j]?=some c→∃ v,w.cell? ⟨b,o+j,none⟩=some v∧ScRel I c v) :
  Grow P w I h (I++[⟨b,o,0,0⟩]) (h++[.row false e cs]):=by
 have hp:I <+: I++[⟨b,o,0,0⟩]:=List.prefix_append _ _
 refine ⟨hp,List.prefix_append _ _,⟨by simp [hr.len],fun i ob L h1 h2=>?_,fun i j o1 o2 L L' h1 h2 w1 w2 k1 k2 e=>?_⟩⟩
 ·rcases xT (by rw [hr.len]) h1 h2 with ⟨_,a,b⟩ | ⟨_,rfl,rfl⟩
  ·exact (hr.obj i ob L a b).mono hp rfl
  ·refine ⟨rfl,hb,fun j c hj=>?_⟩
   obtain ⟨v,h3,h4⟩:=hc j c hj
   exact ⟨v,h3,ScRel.mono hp _ _ h4⟩
 ·rcases xT (by rw [hr.len]) h1 k1 with ⟨_,a,b⟩ | ⟨_,rfl,rfl⟩
  ·rcases xT (by rw [hr.len]) h2 k2 with ⟨_,c,d⟩ | ⟨_,rfl,rfl⟩
   ·exact hr.uniq i j o1 o2 L L' a c w1 w2 b d e
   ·simp [AO.own] at w2
  ·simp [AO.own] at w1
theorem YZ:∀ (d:Nat) {fuel:Nat} {t:TypeId} {τ:Ty} {cs:List Value} {x:DataW H×List MemPlace},ZF P d t=some τ→YL P d t=true→DataW.trod enc P w 0 (fun _=>true) true fuel t cs=some x→(∀ v∈cs,∀ a l c,v=.slice (some a) l c→0 < w.heap.size)→
  ∀ I h,HRel P w.heap.size I h w→Got P w I h τ cs
 | 0,_,_,_,_,_,hy,_,_,_,_,_,_=>by cases hy
 | d+1,0,_,_,_,_,_,_,hx,_,_,_,_=>by cases hx
 | d+1,fuel+1,t,τ,cs,x,hy,hk,hx,hs,I,h,hr=>by
  have g0:Grow P w I h I h:=⟨List.prefix_refl _,List.prefix_refl _,hr⟩
  unfold ZF at hy
  unfold YL at hk
  cases hu:P.underlying t with
  | none=>simp only [hu] at hy;cases hy
  | some desc=>
   simp only [hu] at hy hk
   cases desc with
   | int k=>
    cases hy
    obtain ⟨n,rfl,h1,h2⟩:=trod_int hu hx
    exact ⟨n,I,h,[.int k n],g0,by simp [ScRels,ScRel],by simp only [DR],h1,h2⟩
   | bool=>
    cases hy
    obtain ⟨n,rfl⟩:=trod_bool hu hx
    exact ⟨n,I,h,[.bool n],g0,by simp [ScRels,ScRel],by simp only [DR],trivial⟩
   | string=>
    cases hy
    obtain ⟨n,rfl⟩:=trod_str hu hx
    exact ⟨n,I,h,[.str n],g0,by simp [ScRels,ScRel],by simp only [DR],trivial⟩
   | struct fs=>
    simp only at hy hk
    simp only [Bool.and_eq_true,List.all_eq_true] at hk
    obtain ⟨l,h1,hy⟩:=oB hy
    cases hy
    obtain ⟨hl,ys,h2⟩:=trod_struct hu hx
    obtain ⟨h3,h4⟩:=mapO_get h1
    obtain ⟨h5,h6⟩:=ZT h2
    have:=QH (P:=P) (w:=w) (τs:=l) (css:=fs.toList.map fun f=>(cs.drop f.offset).take (P.cellsOf f.type)) hr (by simp [h3]) fun i τ c hi hc I h hr=>by
     rw [List.getElem?_map] at hc
     obtain ⟨f,hf,rfl⟩:=oM hc
     obtain ⟨y,hy⟩:=h6 i f hf
     exact YZ d (h4 i f τ hf hi) (hk.2 f (List.mem_of_getElem? hf)) hy (fun v hv a l c e=>hs v (List.mem_of_mem_drop (List.mem_of_mem_take hv)) a l c e) I h hr
    rw [contig_flat hk.1 hl,List.drop_zero] at this
    exact this
   | array n e=>
    simp only at hy hk
    simp only [Bool.and_eq_true] at hk
    obtain ⟨τe,h1,hy⟩:=oB hy
    cases hy
    obtain ⟨hl,ys,h2⟩:=trod_array hu hx
    obtain ⟨h5,h6⟩:=ZT h2
    have:=QH (P:=P) (w:=w) (τs:=List.replicate n τe) (css:=(List.range n).map fun i=>(cs.drop (i*P.cellsOf e)).take (P.cellsOf e)) hr (by simp) fun i τ c hi hc I h hr=>by
     rw [List.getElem?_map] at hc
     obtain ⟨f,hf,rfl⟩:=oM hc
     obtain ⟨y,hy⟩:=h6 i f hf
     rw [List.getElem?_replicate] at hi
     split at hi<;>cases hi
     exact YZ d h1 hk.2 hy (fun v hv a l c e=>hs v (List.mem_of_mem_drop (List.mem_of_mem_take hv)) a l c e) I h hr
    rw [List.range_eq_range',arr_flat n 0 (by rw [hl,zH hk.1];simp),Nat.zero_mul,List.drop_zero] at this
    exact this
   | slice e=>
    simp only at hy hk
    simp only [Bool.and_eq_true,Bool.not_eq_true'] at hk
    obtain ⟨⟨⟨hk1,hk2⟩,hk3⟩,hk4⟩:=hk
    obtain ⟨τe,h1,hy⟩:=oB hy
    cases hy
    rw [h1] at hk4
    have hz:=zH hk4
    have hz0:0 < P.cellsOf e:=by rcases Nat.eq_zero_or_pos (P.cellsOf e) with h | h;rw [h] at hk2;cases hk2;exact h
    rcases trod_slice hu hx with rfl | ⟨a,len,cap,rfl,hlc,hcm,hel⟩
    ·exact ⟨[],I,h,[.nils false],g0,by simp [ScRels,ScRel],⟨.nils false,rfl,.inl ⟨rfl,false,rfl⟩⟩,Nat.zero_le _,fun x hx=>by cases hx⟩
    ·have hB:0 < w.heap.size:=hs _ (by simp) a len cap rfl
     have key:∀ n,n≤len→∃ (xs:List τe.T) (I':List AM.Loc) (h':AH) (scs:List Sc),xs.length=n∧Grow P w I h I' h'∧Seg (DR P h' (ZU h') τe) xs scs∧(∀ x∈xs,InR τe x)∧scs.length=n*P.cellsOf e∧
       ∀ (j:Nat) c,scs[j]?=some c→∃ v,w.cell? (a.add j)=some v∧ScRel I' c v:=by
      intro n
      induction n with
      | zero=>intro _;exact ⟨[],I,h,[],rfl,g0,rfl,fun x hx=>(by cases hx),by simp,fun j c hj=>by simp at hj⟩
      | succ n ih=>
       intro hn
       obtain ⟨xs,I1,h1',s1,k1,g1,k2,k3,k4,k5⟩:=ih (by omega)
       obtain ⟨vs,y,h3,h4⟩:=hel n (by omega)
       obtain ⟨h5,h6⟩:=Vn h3
       obtain ⟨x,I2,h2',s2,g2,r2,d2,i2⟩:=YZ d (τ:=τe) h1 hk3 h4 (fun _ _ _ _ _ _=>hB) I1 h1' g1.hr
       have hl2:=r2.length
       refine ⟨xs++[x],I2,h2',s1++s2,by simp [k1],g1.trans g2,(k2.mono fun _ _=>DR.mono g2.ext τe).append ⟨s2,[],by simp,d2,rfl⟩,fun z hz=>?_,by simp [k4,hl2,h5,Nat.succ_mul],fun j c hj=>?_⟩
       ·rcases List.mem_append.1 hz with hz | hz
        ·exact k3 z hz
        ·simp at hz;rw [hz];exact i2
       ·rcases Nat.lt_or_ge j s1.length with hlt | hge
        ·rw [List.getElem?_append_left hlt] at hj
         obtain ⟨v,h7,h8⟩:=k5 j c hj
         exact ⟨v,h7,ScRel.mono g2.pi _ _ h8⟩
        ·rw [List.getElem?_append_right hge] at hj
         obtain ⟨v,h7,h8⟩:=r2.get hj
         refine ⟨v,?_,h8⟩
         have h9:=h6 _ v h7
         have e1:(a.add (n*P.cellsOf e)).add (j - s1.length)=a.add j:=by
          rw [k4] at hge ⊢
          by_cases hj0:j=0
          ·subst hj0
           have:n*P.cellsOf e=0:=by omega
           rw [this];simp [Addr.add]
          ·have hsp:a.spot=none∨a.spot≠none:=by cases a.spot<;>simp
           obtain ⟨vs0,y0,q1,_⟩:=hel 0 (by omega)
           obtain ⟨q2,q3⟩:=Vn q1
           have q4:=q3 0 (vs0[0]'(by omega)) (List.getElem?_eq_getElem (by omega))
           have q5:a.spot=none:=by have:=World.cell?_spot q4;simpa [Addr.add] using this
           obtain ⟨b,o,sp⟩:=a
           simp only at q5;subst q5
           rw [YC,YC,YC];congr 1;omega
         rw [e1] at h9;exact h9
     obtain ⟨xs,I1,h1',s1,k1,g1,k2,k3,k4,k5⟩:=key len (Nat.le_refl _)
     by_cases hc0:cap=0
     ·subst hc0
      have hlen:len=0:=by omega
      subst hlen
      have hx0:xs=[]:=List.length_eq_zero_iff.1 k1
      subst hx0
      have hs0:s1=[]:=List.length_eq_zero_iff.1 (by simpa using k4)
      subst hs0
      have g2:=hr_row (e:=e) (cs:=[]) (b:=0) (o:=0) g1.hr hB (fun j c hj=>by simp at hj)
      refine ⟨[],_,_,[.sl h1'.length 0 0],g1.trans g2,by simp only [ScRels];exact ⟨⟨_,0,a,by rw [← g1.hr.len,yq],rfl,Nat.le_refl _,fun h=>absurd rfl h,fun h=>absurd rfl h⟩,trivial⟩,⟨_,rfl,.inr ⟨h1'.length,0,.row false e [],[],rfl,by simp [ZU],yq _ _,trivial,rfl,hz,by simp,by simp [Seg]⟩⟩,Nat.zero_le _,fun x hx=>by cases hx⟩
     ·obtain ⟨vs0,y0,q1,_⟩:=hel 0 (by omega)
      obtain ⟨q2,q3⟩:=Vn q1
      have q4:=q3 0 (vs0[0]'(by omega)) (List.getElem?_eq_getElem (by omega))
      have q5:a.spot=none:=by have:=World.cell?_spot q4;simpa [Addr.add] using this
      obtain ⟨b,o,sp⟩:=a
      simp only at q5;subst q5
      rw [YC,YC] at q4
      have hb:b < w.heap.size:=by
       unfold World.cell? at q4
       simp only at q4
       split at q4
       ·rename_i hg;exact (Array.getElem?_eq_some_iff.1 hg).1
       ·cases q4
      have g2:=hr_row (e:=e) (cs:=s1) (b:=b) (o:=o) g1.hr hb (fun j c hj=>by obtain ⟨v,h7,h8⟩:=k5 j c hj;rw [YC] at h7;exact ⟨v,h7,h8⟩)
      refine ⟨xs,_,_,[.sl h1'.length 0 len],g1.trans g2,by simp only [ScRels];exact ⟨⟨_,cap,_,by rw [← g1.hr.len,yq],rfl,hlc,fun _=>by simp,fun h=>absurd rfl h⟩,trivial⟩,⟨_,rfl,.inr ⟨h1'.length,0,.row false e s1,s1,by rw [k1],by simp [ZU],yq _ _,trivial,rfl,hz,by rw [k1,hz,k4];simp,?_⟩⟩,by rw [k1];omega,k3⟩
      rw [List.drop_zero,k1,hz,← k4,List.take_length]
      exact k2.mono fun _ _=>DR.mono g2.ext τe
   | _=>cases hy
end
def Tup:List Ty→Type
 | []=>Unit
 | t::r=>t.T×Tup r
def InTup:(l:List Ty)→Tup l→Prop
 | [],_=>True
 | t::r,x=>InR t x.1∧InTup r x.2
noncomputable def argA (P:Program) (t:TypeId) (τ:Ty) (x:τ.T):TA:=cond (yK P t) (.agg (τ.cells x)) (.sc ((τ.cells x).headD .nil))
noncomputable def Vg (P:Program):List TypeId→(τs:List Ty)→Tup τs→List TA
 | _,[],_=>[]
 | [],_::_,_=>[]
 | t::ts,τ::τs,x=>argA P t τ x.1::Vg P ts τs x.2
noncomputable def VP (P:Program):List TypeId→List Ty→Bool
 | [],[]=>true
 | t::ts,τ::τs=>(match ZF P 12 t with | some τ'=>decide (τ'=τ) | none=>false)&&YL P 12 t&&VP P ts τs
 | _,_=>false
section
variable {H : Type} {enc : TypeId × Value → H} {P : Program} {w : World}
theorem Wo {base:Nat} {u:TypeId} {a:Addr} {l c:Nat} (hx:Cell.okWide P w .any base u (.slice (some a) l c)):0 < w.heap.size:=by
 unfold Cell.okWide at hx
 split at hx<;>first | (rename_i h;cases h;done) | skip
 all_goals try (cases ‹Value.slice _ _ _=_›;done)
 unfold Cell.ok at hx
 split at hx<;>try (first | (cases ‹Value.slice _ _ _=_›;done) | exact hx.elim)
 rename_i heq
 cases heq
 obtain ⟨_,_,_,_,row,cells,hs,_⟩:=hx
 unfold World.shape? at hs
 split at hs
 ·rename_i hg;have:=(Array.getElem?_eq_some_iff.1 hg).1;omega
 ·cases hs
theorem cell_agg {base:Nat} {u:TypeId} {cs:Array Value} (hx:Cell.okWide P w .any base u (.agg cs)):False:=by
 unfold Cell.okWide at hx
 split at hx<;>try (first | (cases ‹Value.agg _=_›;done))
 unfold Cell.ok at hx
 split at hx<;>try (first | (cases ‹Value.agg _=_›;done) | exact hx.elim)
theorem val_one {base:Nat} {t:TypeId} {v:Value} (hag:yK P t=false) (hx:Value.okWide P w .any base t v):v.cells=#[v]∧Cell.okWide P w .any base t v:=by
 unfold Value.okWide at hx
 unfold yK at hag
 split at hx
 ·rename_i h;rw [h] at hag;cases hag
 ·rename_i h;rw [h] at hag;cases hag
 ·refine ⟨?_,hx⟩
  cases v<;>first | rfl | exact (cell_agg hx).elim
theorem val_agg {base:Nat} {t:TypeId} {v:Value} (hag:yK P t=true) (hx:Value.okWide P w .any base t v):∃ cs,v=.agg cs:=by
 unfold Value.okWide at hx
 unfold yK at hag
 split at hx
 ·obtain ⟨cs,h,_⟩:=hx;exact ⟨cs,h⟩
 ·obtain ⟨cs,h,_⟩:=hx;exact ⟨cs,h⟩
 ·exfalso
  split at hag<;>simp_all
theorem val_block {base:Nat} {t:TypeId} {v:Value} (hx:Value.okWide P w .any base t v):∀ u∈v.cells.toList,∀ a l c,u=.slice (some a) l c→0 < w.heap.size:=by
 rintro u hu a l c rfl
 unfold Value.okWide at hx
 split at hx
 ·obtain ⟨cs,rfl,_,ts,_,_,hall⟩:=hx
  obtain ⟨i,hi⟩:=List.mem_iff_getElem?.1 hu
  obtain ⟨x,_,hc⟩:=hall i _ (by simpa [Value.cells] using hi)
  exact Wo hc
 ·obtain ⟨cs,rfl,_,ts,_,_,hall⟩:=hx
  obtain ⟨i,hi⟩:=List.mem_iff_getElem?.1 hu
  obtain ⟨x,_,hc⟩:=hall i _ (by simpa [Value.cells] using hi)
  exact Wo hc
 ·have h1:v.cells=#[v]:=by cases v<;>first | rfl | exact (cell_agg hx).elim
  rw [h1] at hu
  simp at hu
  subst hu
  exact Wo hx
theorem arg_got {t:TypeId} {τ:Ty} {v:Value} {d:DataW H} {ps:List MemPlace} (hy:ZF P 12 t=some τ) (hk:YL P 12 t=true) {base:Nat} (hv:Value.okWide P w .any base t v) (hd:DataW.Trod enc P w 0 (fun _=>true) true t v d ps) {I:List AM.Loc} {h:AH} (hr:HRel P w.heap.size I h w) :
  ∃ (x:τ.T) (I':List AM.Loc) (h':AH) (av:AV),Grow P w I h I' h'∧AVRel I' av v∧AR P h' (ZU h') [] (argA P t τ x) av∧InR τ x:=by
 obtain ⟨fuel,hd⟩:=hd
 obtain ⟨x,I',h',scs,g,hs,hdr,hi⟩:=YZ 12 hy hk hd (val_block hv) I h hr
 cases hag:yK P t with
 | true=>
  obtain ⟨cs,rfl⟩:=val_agg hag hv
  exact ⟨x,I',h',.agg scs,g,⟨cs,rfl,hs⟩,by simp only [argA,hag,cond_true];exact ⟨scs,rfl,hdr.cells⟩,hi⟩
 | false=>
  obtain ⟨h1,_⟩:=val_one hag hv
  rw [h1] at hs
  match scs,hs with
  | [s],hs=>
   simp only [ScRels] at hs
   have hc:=hdr.cells (J:=[])
   cases hcl:τ.cells x with
   | nil=>rw [hcl] at hc;simp [CRs] at hc
   | cons c r=>
    rw [hcl] at hc
    simp only [CRs] at hc
    exact ⟨x,I',h',.sc s,g,hs.1,by simp only [argA,hag,cond_false,hcl,List.headD_cons];exact ⟨s,rfl,hc.1⟩,hi⟩
theorem args_got:∀ {ts:List TypeId} {τs:List Ty} {vs:List Value} {ds:List (DataW H)} {ps:List MemPlace} {base:Nat} {I:List AM.Loc} {h:AH},VP P ts τs=true→(∀ (j:Nat) t v,ts[j]?=some t→vs[j]?=some v→Value.okWide P w .any base t v)→
  DataW.TrodAll enc P w 0 (fun _=>true) true ts vs ds ps→HRel P w.heap.size I h w→
  ∃ (x:Tup τs) (I':List AM.Loc) (h':AH) (avs:List AV),Grow P w I h I' h'∧AVRels I' avs vs∧ARs P h' (ZU h') [] (Vg P ts τs x) avs∧InTup τs x
 | [],[],[],[],ps,base,I,h,_,_,_,hr=>⟨(),I,h,[],⟨List.prefix_refl _,List.prefix_refl _,hr⟩,trivial,trivial,trivial⟩
 | t::ts,τ::τs,v::vs,d::ds,ps,base,I,h,hk,hv,hd,hr=>by
  simp only [VP,Bool.and_eq_true] at hk
  obtain ⟨⟨h1,h2⟩,h3⟩:=hk
  have hy:ZF P 12 t=some τ:=by
   split at h1
   ·rename_i τ' he;rw [he,of_decide_eq_true h1]
   ·cases h1
  obtain ⟨p,q,hd1,hd2,rfl⟩:=hd
  obtain ⟨x,I1,h1',av,g1,r1,a1,i1⟩:=arg_got hy h2 (hv 0 t v rfl rfl) hd1 hr
  obtain ⟨y,I2,h2',avs,g2,r2,a2,i2⟩:=args_got h3 (fun j t v h4 h5=>hv (j+1) t v (by simpa using h4) (by simpa using h5)) hd2 g1.hr
  exact ⟨(x,y),I2,h2',av::avs,g1.trans g2,⟨r1.mono g2.pi,r2⟩,⟨a1.mono g2.ext (List.prefix_refl _),a2⟩,i1,i2⟩
 | [],[],_::_,_,_,_,_,_,_,_,hd,_=>hd.elim
 | [],[],[],_::_,_,_,_,_,_,_,hd,_=>hd.elim
 | _::_,_::_,[],_,_,_,_,_,_,_,hd,_=>hd.elim
 | _::_,_::_,_::_,[],_,_,_,_,_,_,hd,_=>hd.elim
 | [],_::_,_,_,_,_,_,_,hk,_,_,_=>by simp [VP] at hk
 | _::_,[],_,_,_,_,_,_,hk,_,_,_=>by simp [VP] at hk
end
theorem trod_len {H:Type} {enc:TypeId×Value→H} {P:Program} {w:World}:∀ {ts:List TypeId} {vs:List Value} {ds:List (DataW H)} {ps:List MemPlace},DataW.TrodAll enc P w 0 (fun _=>true) true ts vs ds ps→ds.length=ts.length
 | [],[],[],_,_=>rfl
 | _::_,_::_,_::_,_,⟨_,_,_,h,_⟩=>by simp [trod_len h]
 | [],[],_::_,_,h=>h.elim
 | [],_::_,_,_,h=>h.elim
 | _::_,[],_,_,h=>h.elim
 | _::_,_::_,[],_,h=>h.elim
theorem hr_nil {P:Program} {h:AH}:HR P [] (ZU h) [] h:=
 ⟨rfl,fun i o je h=>by simp at h,fun i j o o' je je' h=>by simp at h,fun i o je h=>by simp at h,fun i hi=>hi⟩
def roBase (P:Program) (base:List (FuncId×TAn)):Bool:=base.all fun p=>AM.roOk P (mkA base) p.1
theorem ro_base {P:Program} {base:List (FuncId×TAn)} (h:roBase P base=true) (f:FuncId):AM.roOk P (mkA base) f=true:=by
 cases hq:base.find? (fun p=>Nat.beq p.1 f) with
 | none=>
  have e:(mkA base f).ro=[]:=by simp only [mkA,yk,hq]
  have e2:(mkA base f).fr=[]:=by simp only [mkA,yk,hq]
  have e3:(mkA base f).gr=[]:=by simp only [mkA,yk,hq]
  unfold AM.roOk AM.frOk
  rw [e,e2,e3];rfl
 | some p=>
  have h1:=List.all_eq_true.1 h p (List.mem_of_find?_eq_some hq)
  have h2:p.1=f:=Nat.eq_of_beq_eq_true (by simpa using List.find?_some hq)
  rw [h2] at h1
  exact h1
theorem law_tm {H:Type} {enc:TypeId×Value→H} {C:Checked} {os:Os} {f:FuncId} {fn:Func} {s:ChangeSpec} {conds:List PathCond} {tb:TypeId} {τs:List Ty}
  (own:ownKnob C.prog.godebug=none) (started:os.Started) (noInit:C.prog.inits.idxOf? f=none) (hfn:C.prog.funcs[f]?=some fn)
  (witness:∃ (w:World) (tape:Tape) (i:Input),w.os=os∧(w.forCall tape i).Shaped C.prog∧i.vars=[]∧Input.okWide C.prog (w.forCall tape i) .any w.heap.size f i∧
   s.pre6 enc C.prog fn conds false (w.forCall tape i).memory i.args∧Assume.holds {} C.prog (lone (Frame.enter C.prog f i.args .normal) [] (w.forCall tape i)))
  (hl:laidOutB C.prog=true) (hr:fn.resultTypes=#[tb]) (htb:C.prog.underlying tb=some .bool) (hv:s.vars=[])
  (hp:(fn.params.toList.all fun t=>C.prog.readableRec t&&decide (t < C.prog.types.size))=true)
  (hN:yB C.prog=true) (hm:C.prog.follows .mixedOrders=true) {base:List (FuncId×TAn)} {O:OrcT} {T:TellT} (ok:TnOk C.prog (zd base O T) (mkA base) dOk)
  (hro:roBase C.prog base=true) (hts:VP C.prog fn.params.toList τs=true) (hs:∀ ds:List (DataW H),ds.length=fn.params.size→s.fn H ds={ results:=[.lit (.bool true)],args:=ds })
  (run:∀ x:Tup τs,InTup τs x→∃ k H',TM.evF C.prog (zd base O T) dOk k f (Vg C.prog fn.params.toList τs x) []=some ([.sc (.bool true)],H')) (hnf:Nat.beq f YF=false:=by rfl) :
  ReturnsInHanded {} C os f .any (s.pre6 enc C.prog fn conds false) (s.post enc C.prog fn false true false false):=by
 refine law_in own started noInit hfn witness hl hr htb hv hp hN hm (mkA base) (fun B f g args p hp=>by cases hp) (fun f k=>AM.ro_ev (fun _=>rfl) (ro_base hro) k f) ?_
 intro W b args ds before hval hW hlt
 have hlen:=trod_len hW
 refine ⟨hs ds (by simpa using hlen),?_⟩
 obtain ⟨x,I',h',avs,g,r1,a1,i1⟩:=args_got (I:=[]) (h:=[]) hts (fun j t v h1 h2=>hval j t v (by simpa using h1) (by simpa using h2)) hW ⟨rfl,fun i o L h=>by simp at h,fun i j o o' L L' h=>by simp at h⟩
 obtain ⟨k,H',he⟩:=run x i1
 obtain ⟨k',avs',h2,J',Z',he2,_,hrs⟩:=ZN ok k f _ [] _ H' he [] (ZU h') h' (.func f) avs avs (.inl ⟨fun e=>by subst e;simp at hnf,rfl,rfl⟩) a1 hr_nil
 match avs',hrs with
 | [av],hrs=>
  simp only [ARs,AR] at hrs
  obtain ⟨⟨sc,rfl,hc⟩,_⟩:=hrs
  simp only [CR] at hc
  subst hc
  exact ⟨I',avs,h',h2,k',r1,g.hr,he2⟩
end Go.TM
