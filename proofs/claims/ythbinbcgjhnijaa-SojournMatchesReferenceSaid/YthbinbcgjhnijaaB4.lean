/- Code, functions, calls (II): what the machine tells of a call is what the program does. -/
import Derived.Test.YthbinbcgjhnijaaB3
import Derived.ProofKit
set_option linter.all false
namespace Go.AM
open Go.RowKit
variable {P : Program} {A : FAn} {ev : Ev} {B : Nat} {Ie : List Loc} {he : AH} {we : World} {I : List Loc} {lam : Nat → Nat} {s : St} {a : Act} {w : World} {ops : Array Oper}
def Ex.to : Ex → Exit
  | .normal => .normal
  | .exit i => .exit i
  | .ret => .ret
theorem wV (A : FAn) (blk : Nat) (r : Rel P B Ie he we I lam s a w) : Rel P B Ie he we I lam (maskAt A blk s) a w := by
  unfold maskAt
  split
  · exact r
  · rename_i p q _
    refine r.loose (fun d v hv => ?_) (fun k cs hk => ?_) rfl
    · obtain ⟨h1, h2⟩ := Yk (fun _ => .u) s.sl p _ (fun d v hv => by
        rw [Tr.get_map] at hv
        obtain ⟨y, hy, rfl⟩ := oM hv
        exact ⟨⟨y, hy⟩, .inl ⟨y, rfl⟩⟩) d v hv
      refine ⟨h1, ?_⟩
      rcases h2 with ⟨_, h2⟩ | h2
      · exact .inl h2
      · exact .inr h2
    · obtain ⟨h1, h2⟩ := Yk (fun _ => none) s.lo q _ (fun d v hv => by
        rw [Tr.get_map] at hv
        obtain ⟨y, hy, rfl⟩ := oM hv
        exact ⟨⟨y, hy⟩, .inl ⟨y, rfl⟩⟩) k (some cs) hk
      rcases h2 with ⟨_, h2⟩ | h2
      · cases h2
      · exact h2
abbrev ContOk (P : Program) (B : Nat) (Ie : List Loc) (he : AH) (we : World) {R : Type} (x : R) (c : Ex → St → Option R) (Q : Exit → Act → World → Prop) : Prop :=
  ∀ e s', c e s' = some x → ∀ I' lam' a' w', Rel P B Ie he we I' lam' s' a' w' → Q e.to a' w'
theorem range_in (hN : yj P = true) (hev : Zz P B ev) {R : Type} {x : R} {g : Operand} {ps : Array Tmp} {assign body : Code} {K : Ex → St → Option R}
    (h : rangeK A ev g ps assign body s K = some x) (r : Rel P B Ie he we I lam s a w) {Q : Exit → Act → World → Prop} (hq : ContOk P B Ie he we x K Q) : (Code.rangeFunc g ps assign body).wpIn (FW none) 0 P Q a w := by
  unfold rangeK at h
  obtain ⟨fv, hf, h⟩ := oB h
  obtain ⟨fs, rfl, h⟩ := asSc_some.1 h
  obtain ⟨f, nf, sh, cs, rfl, h⟩ := asF_some.1 h
  obtain ⟨vs, hvs, h⟩ := oB h
  obtain ⟨hg, h⟩ := gB.1 h
  simp only [Bool.and_eq_true] at hg
  have hfn : ∃ n, f = .func n := by cases f <;> first | exact ⟨_, rfl⟩ | (have := hg.2; cases this)
  obtain ⟨n, rfl⟩ := hfn
  obtain ⟨first, cap, ef, hnf, hsh, _, hcs⟩ := yM r hf
  have ef : a.eval g = .func (.func n) first cap := ef
  have rvs := xd (us := (first ++ cap).toList) hvs hsh hcs
  have rfirst : AVRels I (vs.take nf) first.toList := by
    have := AVRels.take' nf rvs
    rw [Array.toList_append, List.take_left' (by simpa using hnf)] at this
    exact this
  have rcap : AVRels I (vs.drop nf) cap.toList := by
    have := AVRels.drop' nf rvs
    rw [Array.toList_append, List.drop_left' (by simpa using hnf)] at this
    exact this
  unfold callK at h
  simp only at h
  rcases cond_some.1 h with ⟨hi, _⟩ | ⟨_, h⟩
  · simp [AV.bare, AV.cells, Sc.bare] at hi
  obtain ⟨⟨rs, h2⟩, hev1, h⟩ := oB h
  simp only at h
  have hB := r.kp.size_B r.base
  intro b k cs' hro hb hr
  refine wpIn_rangeFunc (Q := Q) (fun fn _ => ?_) b k cs' hro hb hr
  let D := w.heap.size
  let rec0 : Loop := { state := .ready, pending := none, fn, tmps := a.tmps, params := ps, assign, body, defers := D }
  let w1 : World := w.alloc (.deferred (some []))
  let w2 : World := w1.alloc (.loop rec0)
  let L : Loc := ⟨D + 1, 0, 0, 0⟩
  let lp : ALoop := ⟨0, none, A.self, s.sl.map noLoc, ps.toList, assign, body⟩
  have r0 : Rel P B Ie he we I lam s a w1 := r.allocOnly _
  have hs1 : w1.heap.size = D + 1 := by simp [w1, D]
  have hpre : I <+: I ++ [L] := List.prefix_append _ _
  have r1 : Rel P B Ie he we (I ++ [L]) lam { s with h := s.h ++ [.loop lp] } a w2 := by
    refine r0.newHeap (L := L) hs1.symm ⟨show B ≤ D + 1 by have : B ≤ D := hB; omega, rec0, ?_, rfl, rfl, rfl, rfl, rfl, fun i v hv => ?_⟩
    · show w2.heap[D + 1]? = _
      rw [← hs1]; exact World.alloc_heap_new _ _
    · have hv : (s.sl.map noLoc).get i = some v := hv
      rw [Tr.get_map] at hv
      obtain ⟨u, hu, rfl⟩ := oM hv
      obtain ⟨y, hy, hrel⟩ := r.tm i u hu
      refine ⟨y, hy, ?_, by cases u <;> rfl⟩
      cases u <;> first | trivial | exact SVRel.mono hpre hrel
  have hid : I.length = s.h.length := r.hp.len
  have hL1 : (I ++ [L])[s.h.length]? = some L := by rw [← hid]; simp
  have ry : AVRel (I ++ [L]) (.sc (.fn (.yield s.h.length) 0 [] [])) (.func (.yield L.b) #[] #[]) := by
    refine ⟨#[], #[], ?_, rfl, rfl, ⟨by rw [List.length_append, ← hid]; simp, rfl⟩, by simp [ScRels]⟩
    simp only [YH, hL1, Option.map_some, Option.getD_some]
  have rall : AVRels (I ++ [L]) (vs.take nf ++ [.sc (.fn (.yield s.h.length) 0 [] [])] ++ vs.drop nf) (first.toList ++ [.func (.yield L.b) #[] #[]] ++ cap.toList) :=
    ((AVRels.mono hpre rfirst).append' (show AVRels _ [_] [_] from ⟨ry, trivial⟩)).append' (AVRels.mono hpre rcap)
  have hB2 : B ≤ w2.heap.size := r1.kp.size_B r1.base
  obtain ⟨⟨fnn, hfnn, hbody⟩, hcall⟩ := hev.1 n _ _ _ _ hev1 (I ++ [L]) w2 _ rall r1.hp hB2
  have hname2 : fnn.name ≠ "runtime.NumGoroutine" := by
    have hm : fnn ∈ P.funcs := Array.mem_of_getElem? hfnn
    have := Array.all_eq_true_iff_forall_mem.1 hN fnn hm
    simpa using this
  have hb2 : fnn.body ≠ none := by intro hb; simp [hb] at hbody
  refine ⟨D + 1, [{ target := .collected D, args := #[] }], w2, { target := .fn (.func n) cap, args := first ++ #[.func (.yield (D + 1)) #[] #[]] }, w2, n, first ++ #[.func (.yield (D + 1)) #[] #[]] ++ cap, w2, run_enterLoop_outer .., ?_, fun _ _ => trivial, ?_, fun hd => by simp [FW] at hd, ?_⟩
  · have ec : a.eval (.const (.func (.yield (D + 1)) #[] #[])) = .func (.yield (D + 1)) #[] #[] := rfl
    simp [resolve, rangeCall, ef, ec, Deferred.ofValue]
  · simp [invoke, callFunc, hfnn, hname2, hb2]
  · have e1 : (first.toList ++ [Value.func (.yield L.b) #[] #[]] ++ cap.toList).toArray = first ++ #[.func (.yield (D + 1)) #[] #[]] ++ cap := by simp [L]
    rw [e1] at hcall
    refine CallsIn.mono (R := Zc P B (I ++ [L]) (s.h ++ [.loop lp]) w2 rs h2) (Ws hcall) fun e w3 hpost => ?_
    cases e with
    | panicked c => exact hpost.elim
    | outgrown => exact hpost.elim
    | returned v =>
      obtain ⟨I', _, hh, hk⟩ := hpost
      have r2 : Rel P B Ie he we I' lam { s with h := h2 } a w3 := r1.call hh hk
      have hL' : I'[s.h.length]? = some L := zN hk.pre hL1
      unfold rangeEnd at h
      split at h
      case h_2 => cases h
      rename_i l2 hl2
      obtain ⟨hst, h⟩ := gB.1 h
      obtain ⟨_, r3, g1, g2, g3, _⟩ := r2.hp.obj _ _ L hl2 hL'
      have hbusy : r3.state ≠ .busy := by
        rw [g2]
        intro e
        have : l2.st = 1 := by
          revert e
          match l2.st with
          | 0 => intro e; cases e
          | 1 => intro _; rfl
          | 2 => intro e; cases e
          | n + 3 => intro e; cases e
        rw [this] at hst; cases hst
      have r4 : Rel P B Ie he we I' lam { s with h := h2.set s.h.length .dead } a w3 := r2.kill _
      have hD : w3.heap[D]? = some (.deferred (some [])) := by
        have h0 : w2.heap[D]? = some (.deferred (some [])) := by
          have : w1.heap[D]? = some (.deferred (some [])) := World.alloc_heap_new _ _
          exact (Below.heap_alloc w1 _ D (by rw [hs1]; omega)).trans this
        exact (hk.foot D (by simp [w2, w1, D]; omega) fun ho => OwnB.noDf r1.hp ho h0).trans h0
      have hEs : we.heap.size ≤ D := r.kp.size
      let w4 := w3.putObj (D + 1) (.loop { r3 with state := .exhausted })
      have r5 : Rel P B Ie he we I' lam { s with h := h2.set s.h.length .dead } { a with defers := [{ target := .collected D, args := #[] }] ++ a.defers } w4 := by
        refine r4.putNo (b := D + 1) (by omega) ?_ (fun arr e z hc => by rw [show w3.heap[D + 1]? = _ from g1] at hc; cases hc) rfl ?_
        · rintro ⟨i, o, L2, k1, k2, k3, k4⟩
          by_cases e : s.h.length = i
          · subst e
            rw [List.getElem?_set_self'] at k1
            obtain ⟨y, _, hy⟩ := oM k1
            subst hy; simp [AO.own] at k2
          · rw [List.getElem?_set_ne e] at k1
            exact e (r2.hp.uniq _ i _ o L L2 hl2 k1 rfl k2 hL' k3 k4.symm)
        · obtain ⟨bs, d1, d2, d3⟩ := r4.df
          have d0 : ∀ c ∈ bs, c < D := by
            obtain ⟨bs', e1, _, e3⟩ := r.df
            have : bs = bs' := by
              have e := d1.symm.trans e1
              exact (List.map_inj_right (fun x y hxy => by cases hxy; rfl)).1 e
            subst this
            intro c hc
            exact (Array.getElem?_eq_some_iff.1 (e3 c hc).2).1
          refine ⟨D :: bs, by rw [d1]; rfl, List.nodup_cons.2 ⟨fun hc => by have := d0 D hc; omega, d2⟩, fun c hc => ?_⟩
          rcases List.mem_cons.1 hc with rfl | hc
          · exact ⟨hEs, (World.putObj_heap_other (by omega)).trans hD⟩
          · have := d0 c hc
            exact ⟨(d3 c hc).1, (World.putObj_heap_other (by omega)).trans (d3 c hc).2⟩
      refine ⟨r3.pending, w4, run_endLoop g1 hbusy, ?_⟩
      rw [g3]
      split at h
      · rename_i hp; rw [hp]; exact hq .normal _ h _ _ _ _ r5
      · rename_i i hp; rw [hp]; exact wpIn_exit (hq (.exit i) _ h _ _ _ _ r5)
      · rename_i hp; rw [hp]; exact wpIn_ret (hq .ret _ h _ _ _ _ r5)
      · cases h
theorem UU (hN : yj P = true) (hm : P.follows .mixedOrders = true) (hor : Zj P B A) (hev : Zz P B ev) (hro : xk A ev) {k : Nat} {ro : Option Nat} {R : Type} {x : R} : ∀ (c : Code) (blk : Nat) (_ : ro = none ∨ zB c = true) {I : List Loc} {lam : Nat → Nat} {s : St} {a : Act} {w : World} {K : Ex → St → Option R},
    evCode P A ev dOk k c blk s K = some x → Rel P B Ie he we I lam s a w → ∀ {Q : Exit → Act → World → Prop}, ContOk P B Ie he we x K Q → c.wpIn (FW ro) 0 P Q a w := by
  intro c
  induction c with
  | skip => intro blk _ I lam s a w K h r Q hq; exact wpIn_skip (hq _ _ h _ _ _ _ r)
  | label l => intro blk _ I lam s a w K h r Q hq; exact wpIn_label (hq _ _ h _ _ _ _ r)
  | exit i => intro blk _ I lam s a w K h r Q hq; exact wpIn_exit (hq _ _ h _ _ _ _ r)
  | ret => intro blk _ I lam s a w K h r Q hq; exact wpIn_ret (hq _ _ h _ _ _ _ r)
  | region id ops draw =>
    intro blk _ I lam s a w K h r Q hq
    simp only [evCode] at h
    exact region_in hN hm hor hev hro r h fun s' hs I' lam' a' w' r' _ => hq .normal s' hs I' lam' a' w' r'
  | seq c1 c2 ih1 ih2 =>
    intro blk hr0 I lam s a w K h r Q hq
    simp only [evCode] at h
    have n1 : ro = none ∨ zB c1 = true := hr0.imp_right fun h => by simp only [zB, Bool.and_eq_true] at h; exact h.1
    have n2 : ro = none ∨ zB c2 = true := hr0.imp_right fun h => by simp only [zB, Bool.and_eq_true] at h; exact h.2
    refine wpIn_seq (ih1 blk n1 h r fun e s' hs I' lam' a' w' r' => ?_)
    cases e with
    | normal => exact ih2 blk n2 hs r' hq
    | exit i => exact hq _ s' hs I' lam' a' w' r'
    | ret => exact hq _ s' hs I' lam' a' w' r'
  | cond q c1 c2 ih1 ih2 =>
    intro blk hr0 I lam s a w K h r Q hq
    simp only [evCode] at h
    have n1 : ro = none ∨ zB c1 = true := hr0.imp_right fun h => by simp only [zB, Bool.and_eq_true] at h; exact h.1
    have n2 : ro = none ∨ zB c2 = true := hr0.imp_right fun h => by simp only [zB, Bool.and_eq_true] at h; exact h.2
    obtain ⟨v, hv, h⟩ := oB h
    obtain ⟨u, rfl, h⟩ := asSc_some.1 h
    obtain ⟨t, rfl, h⟩ := asB_some.1 h
    have e : a.eval q = .bool t := yM r hv
    rcases cond_some.1 h with ⟨rfl, h⟩ | ⟨rfl, h⟩
    · exact wpIn_cond_true e (ih1 blk n1 h r hq)
    · exact wpIn_cond_false e (ih2 blk n2 h r hq)
  | block id c ih =>
    intro blk hr0 I lam s a w K h r Q hq
    simp only [evCode] at h
    refine wpIn_block (ih id (hr0.imp_right fun h => h) h r fun e s' hs I' lam' a' w' r' => ?_)
    cases e with
    | normal => exact hq .normal s' hs I' lam' a' w' r'
    | exit i =>
      simp only [kBlock] at hs
      simp only [Ex.to, Exit.inBlock]
      rcases cond_some.1 hs with ⟨hi, hs⟩ | ⟨hi, hs⟩
      · rw [if_pos (Nat.eq_of_beq_eq_true hi)]; exact hq .normal s' hs I' lam' a' w' r'
      · rw [if_neg (fun e => by subst e; simp at hi)]; exact hq (.exit i) s' hs I' lam' a' w' r'
    | ret => exact hq .ret s' hs I' lam' a' w' r'
  | loop c ih =>
    intro blk hr0 I lam s a w K h r Q hq
    simp only [evCode] at h
    refine wpIn_loop_rounds k ?_
    have key : ∀ (n : Nat) {I : List Loc} {lam : Nat → Nat} {s : St} {a' : Act} {w : World}, loopN (maskAt A blk) (evCode P A ev dOk k c blk) K n s = some x → Rel P B Ie he we I lam s a' w → Code.roundsIn (FW ro) 0 P c Q n a' w := by
      intro n
      induction n with
      | zero => intro I lam s a' w h; cases h
      | succ n ihn =>
        intro I lam s a' w h r
        rw [roundsIn_succ]
        simp only [loopN] at h
        refine ih blk (hr0.imp_right fun h => h) h (wV A blk r) fun e s' hs I' lam' a2 w' r' => ?_
        cases e with
        | normal => exact ihn hs r'
        | exit i => exact hq (.exit i) s' hs I' lam' a2 w' r'
        | ret => exact hq .ret s' hs I' lam' a2 w' r'
    exact key k h r
  | rangeFunc f ps c1 c2 _ _ =>
    intro blk hr0 I lam s a w K h r Q hq
    rcases hr0 with rfl | hr0
    · simp only [evCode] at h
      exact range_in hN hev h r hq
    · cases hr0
  | scope c _ => intro blk _ I lam s a w K h; simp [evCode] at h
  | goto l => intro blk _ I lam s a w K h; simp [evCode] at h
  | refuse y => intro blk _ I lam s a w K h; simp [evCode] at h
def To (tmps : Array Value) : ResultVar → Sem Value
  | .tmp t => pure (tmps.getD t undef)
  | .cell a t => do loadVar t (← asAddr (tmps.getD a undef))
theorem results_eq (fn : Func) (tmps : Array Value) : results fn tmps = (do
    let vs ← fn.results.mapM (To tmps)
    pure (if h : vs.size = 1 then vs[0] else .tuple vs)) := by
  have e : (fun v => match v with | ResultVar.tmp t => (pure (tmps.getD t undef) : Sem Value) | .cell a t => do loadVar t (← asAddr (tmps.getD a undef))) = To tmps := by
    funext v; cases v <;> rfl
  unfold results
  rw [← e]
  rfl
theorem WZ (r : Rel P B Ie he we I lam s a w) {R : Type} {x : R} : ∀ {l : List ResultVar} {c : List AV → Option R}, resOf P s l c = some x →
    ∃ rs us, c rs = some x ∧ AVRels I rs us ∧ (l.mapM (To a.tmps)).run P w = .ok us w
  | [], c, h => ⟨[], [], h, trivial, by simp⟩
  | .tmp t :: l, c, h => by
    simp only [resOf] at h
    obtain ⟨sv, hsv, h⟩ := oB h
    obtain ⟨av, hav, h⟩ := oB h
    obtain ⟨rs, us, h1, h2, h3⟩ := WZ r h
    obtain ⟨y, hy, hr⟩ := r.tm t sv hsv
    have hsv' : sv = .v av := by cases sv <;> simp [SV.val] at hav; rw [hav]
    subst hsv'
    refine ⟨av :: rs, y :: us, h1, ⟨hr, h2⟩, ?_⟩
    rw [List.mapM_cons]
    simp [To, Array.getD_eq_getD_getElem?, hy, h3]
  | .cell p t :: l, c, h => by
    simp only [resOf] at h
    obtain ⟨hu, h⟩ := gB.1 h
    obtain ⟨d, hd⟩ := Option.isSome_iff_exists.1 hu
    obtain ⟨i, hi⟩ := xr hd
    obtain ⟨sv, hsv, h⟩ := oB h
    obtain ⟨y, hy, hr⟩ := r.tm p sv hsv
    have fin : ∀ (av : AV) (v : Value) (ad : Addr), y = .pointer (some ad) → AVRel I av v → (loadVar t ad).run P w = .ok v w → resOf P s l (fun vs => c (av :: vs)) = some x →
        ∃ rs us, c rs = some x ∧ AVRels I rs us ∧ ((ResultVar.cell p t :: l).mapM (To a.tmps)).run P w = .ok us w := by
      intro av v ad ey hrel hrun h
      obtain ⟨rs, us, h1, h2, h3⟩ := WZ r h
      refine ⟨av :: rs, v :: us, h1, ⟨hrel, h2⟩, ?_⟩
      rw [List.mapM_cons]
      have ea : asAddr (a.tmps[p]?.getD undef) = pure ad := by simp [hy, ey, asAddr]
      simp [To, ea, hrun, h3]
    rcases cond_some.1 h with ⟨hg, h⟩ | ⟨hg, h⟩
    · obtain ⟨cs, hl, h⟩ := yT h
      obtain ⟨b, off, ey, hn, hc⟩ := YB r hr hl
      obtain ⟨vs, hrun, hvs⟩ := Uy (P := P) (w := w) (ad := ⟨b, off, none⟩) (l := cs) (fun j c hj => by rw [Ze]; exact hc j c hj)
      rw [hn, zF hi] at hrun
      exact fin (.agg cs) (.agg vs.toArray) _ ey ⟨_, rfl, by simpa using hvs⟩ (by simp [loadVar, wG hd, hg, yc hi, hrun]) h
    · obtain ⟨u, hl, h⟩ := xw h
      obtain ⟨b, off, v, ey, hc, hv⟩ := TQ r hr hl
      exact fin (.sc u) v _ ey hv (by simp [loadVar, wG hd, hg, hc]) h
theorem WG {args : List AV} {vals : List Value} (hr : AVRels I args vals) {h : AH} (hp : HRel P B I h w) (hB : B ≤ w.heap.size) (fn : Func) :
    Rel P B I h w I (fun _ => 0) (enterSt fn args h) { tmps := vals.toArray ++ Array.replicate (fn.ntmps - vals.toArray.size) undef, defers := [] } w := by
  have hl := hr.length
  have get : ∀ {x : List AV} {v : List Value}, AVRels I x v → ∀ (i : Nat) (y : AV), x[i]? = some y → ∃ u, v[i]? = some u ∧ AVRel I y u := by
    intro x
    induction x with
    | nil => intro v _ i y h; simp at h
    | cons x xs ih =>
      intro v h i y hy
      match v, h with
      | u :: us, ⟨h1, h2⟩ =>
        cases i with
        | zero => simp at hy; subst hy; exact ⟨u, rfl, h1⟩
        | succ i => simpa using ih h2 i y (by simpa using hy)
  refine ⟨fun i v hv => ?_, ⟨fun k cs hk => ?_, fun k k' cs cs' hk => ?_⟩, hp, Keeps.refl .., hB, [], rfl, List.nodup_nil, fun _ h => by cases h⟩
  · simp only [enterSt] at hv
    replace hv := Tr.ofL_get _ _ _ _ hv
    rcases Nat.lt_or_ge i args.length with hi | hi
    · rw [List.getElem?_append_left (by simpa using hi), List.getElem?_map] at hv
      obtain ⟨y, hy, rfl⟩ := oM hv
      obtain ⟨u, hu, hru⟩ := get hr i y hy
      refine ⟨u, ?_, hru⟩
      rw [Array.getElem?_append_left (by simpa [← hl] using hi)]
      simpa using hu
    · rw [List.getElem?_append_right (by simpa using hi), List.getElem?_replicate] at hv
      split at hv
      · rename_i hlt
        cases hv
        refine ⟨undef, ?_, rfl⟩
        rw [Array.getElem?_append_right (by simpa [← hl] using hi), Array.getElem?_replicate, if_pos]
        simpa [← hl] using hlt
      · cases hv
  · simp only [enterSt] at hk; replace hk := Tr.ofL_get _ _ _ _ hk; simp only [List.getElem?_replicate] at hk; split at hk <;> cases hk
  · simp only [enterSt] at hk; replace hk := Tr.ofL_get _ _ _ _ hk; simp only [List.getElem?_replicate] at hk; split at hk <;> cases hk
theorem Vi {fn : Func} {R : Ending → World → Prop} : ∀ (bs : List Nat) {w : World} {a : Act}, Rel P B Ie he we I lam s a w → a.defers = bs.map (fun b => { target := .collected b, args := #[] }) →
    (∀ {a' : Act} {w' : World}, a'.tmps = a.tmps → Rel P B Ie he we I lam s a' w' → ∃ v, (results fn a.tmps).run P w' = .ok v w' ∧ R (.returned v) w') → LeavesInM (FW none) 0 P fn a.tmps R (bs.map (fun b => { target := .collected b, args := #[] })) .returning w
  | [], w, a, r, _, h => h rfl r
  | b :: bs, w, a, r, hd, h => by
    obtain ⟨bs', d1, d2, d3⟩ := r.df
    have : bs' = b :: bs := by
      have e := hd.symm.trans d1
      exact ((List.map_inj_right (fun x y hxy => by cases hxy; rfl)).1 e).symm
    subst this
    have h1 := d3 b (List.mem_cons_self ..)
    refine ⟨(by simp), .inl ⟨b, w.putObj b (.deferred none), rfl, run_takeDeferred h1.2, ?_⟩⟩
    have hn := List.nodup_cons.1 d2
    have r' : Rel P B Ie he we I lam s { a with defers := bs.map (fun b => { target := .collected b, args := #[] }) } (w.putObj b (.deferred none)) := by
      refine r.putNo h1.1 (fun ho => OwnB.noDf r.hp ho h1.2) (fun arr e z hc => by rw [h1.2] at hc; cases hc) rfl ⟨bs, rfl, hn.2, fun c hc => ?_⟩
      have h2 := d3 c (List.mem_cons_of_mem _ hc)
      exact ⟨h2.1, (World.putObj_heap_other (fun e => hn.1 (by rw [← e]; exact hc))).trans h2.2⟩
    exact Vi bs (a := { a with defers := bs.map (fun b => { target := .collected b, args := #[] }) }) r' rfl fun ht hr => h ht hr
theorem round_tm {I : List Loc} : ∀ {ps : List Tmp} {args : List AV} {vals : List Value}, AVRels I args vals → ∀ {t : Tr SV} {tmps : Array Value}, (∀ (i : Nat) v, t.get i = some v → ∃ x, tmps[i]? = some x ∧ SVRel I lam v x) →
    ∀ (i : Nat) v, ((ps.zip args).foldl (fun t p => t.set p.1 (.v p.2)) t).get i = some v → ∃ x, ((ps.zip vals).foldl (fun tmps p => tmps.setIfInBounds p.1 p.2) tmps)[i]? = some x ∧ SVRel I lam v x
  | [], _, _, _, t, tmps, h => h
  | _ :: _, [], [], _, t, tmps, h => h
  | p :: ps, x :: args, y :: vals, ⟨h1, h2⟩, t, tmps, h => by
    simp only [List.zip_cons_cons, List.foldl_cons]
    refine round_tm h2 fun i v hv => ?_
    by_cases e : p = i
    · subst e
      rw [Tr.get_set_self] at hv
      obtain ⟨u, hu, rfl⟩ := oM hv
      obtain ⟨z, hz, _⟩ := h p u hu
      have hlt := (Array.getElem?_eq_some_iff.1 hz).1
      exact ⟨y, by simp [hlt], h1⟩
    · rw [Tr.get_set_ne _ e] at hv
      obtain ⟨z, hz, hr⟩ := h i v hv
      exact ⟨z, by rw [Array.getElem?_setIfInBounds_ne e]; exact hz, hr⟩
  | _ :: _, [], _ :: _, h, _, _, _ => h.elim
  | _ :: _, _ :: _, [], h, _, _, _ => h.elim
theorem evF_ok (hN : yj P = true) (hm : P.follows .mixedOrders = true) (An : FuncId → FAn) (hor : ∀ f, Zj P B (An f)) (hro : ∀ f k, xk (An f) (evF P An dOk k)) : ∀ k, Zz P B (evF P An dOk k)
  | 0 => ⟨fun g args h rs h' he => by simp [evF] at he, fun g args h rs h' he => by simp [evF] at he⟩
  | k + 1 => by
    refine ⟨fun g args h rs h' he I w vals hr hp hB => ?_, fun id args h rs h' he I w vals L hr hp hB hL => ?_⟩
    · simp only [evF] at he
      obtain ⟨fn, hfn, he⟩ := oB he
      obtain ⟨code, hcode, he⟩ := oB he
      obtain ⟨_, he⟩ := gB.1 he
      refine ⟨⟨fn, hfn, by rw [hcode]; rfl⟩, callsIn_of_wp_marks hfn hcode trivial ?_⟩
      refine UU (ro := none) hN hm (hor g) (evF_ok hN hm An hor hro k) (hro g k) code 0 (.inl rfl) he (WG hr hp hB fn) fun e s' hs I' lam' a' w' r' => ?_
      have fin : ∀ e, (e = Exit.normal ∨ e = .ret) → (resOf P s' fn.results.toList fun vs => some (vs, s'.h)) = some (rs, h') → bodyPostM (FW none) 0 P fn (Zc P B I h w rs h') e a' w' := by
        intro e he2 hres
        obtain ⟨bs, hbs, _⟩ := r'.df
        have hl : LeavesInM (FW none) 0 P fn a'.tmps (Zc P B I h w rs h') a'.defers .returning w' := by
          rw [hbs]
          refine Vi bs r' hbs fun {a2 w2} ht r2 => ?_
          obtain ⟨rs', us, h1, h2, h3⟩ := WZ r2 hres
          cases h1
          rw [ht] at h3
          have hrun : (results fn a'.tmps).run P w2 = .ok (if h : us.toArray.size = 1 then us.toArray[0] else .tuple us.toArray) w2 := by
            rw [results_eq, Array.mapM_eq_mapM_toList]
            simp only [Sem.run_bind, map_eq_pure_bind, bind_assoc, h3, Result.andThen_ok, Sem.run_pure]
          exact ⟨_, hrun, I', ⟨us.toArray, by simpa using h2, rfl⟩, r2.hp, r2.kp⟩
        rcases he2 with rfl | rfl <;> exact hl
      cases e with
      | normal => exact fin _ (.inl rfl) hs
      | exit i => cases hs
      | ret => exact fin _ (.inr rfl) hs
    · simp only [evF] at he
      split at he
      case h_2 => cases he
      rename_i l hl
      obtain ⟨hg, he⟩ := gB.1 he
      simp only [Bool.and_eq_true] at hg
      obtain ⟨⟨g0, g1⟩, g2⟩ := hg
      have hob := hp.obj id _ L hl hL
      obtain ⟨_, r0, k1, k2, k3, k4, k5, k6, k7⟩ := hob
      have hlen : vals.length = r0.params.size := by
        have h1 := Nat.eq_of_beq_eq_true g0
        rw [← hr.length, h1, ← k4]; simp
      refine ⟨r0, k1, hlen, ?_⟩
      have hA := hor l.fn
      have hR := hro l.fn k
      have hE := evF_ok hN hm An hor hro k
      have rin : Rel P B I h w I (fun _ => 0) (roundSt l args h) { tmps := (r0.params.zip vals.toArray).foldl (fun tmps (t, a) => tmps.setIfInBounds t a) r0.tmps, defers := [] } w := by
        refine ⟨fun i v hv => ?_, ⟨fun k cs hk => ?_, fun k k' cs cs' hk => ?_⟩, hp, Keeps.refl .., hB, [], rfl, List.nodup_nil, fun _ h => by cases h⟩
        · have := round_tm (lam := fun _ => 0) (ps := l.params) hr (t := l.sl) (tmps := r0.tmps) (fun i v hv => let ⟨x, hx, hr, _⟩ := k7 i v hv; ⟨x, hx, hr⟩) i v hv
          obtain ⟨x, hx, hr⟩ := this
          refine ⟨x, ?_, hr⟩
          rw [← k4] at hx
          rw [← Array.foldl_toList, Array.toList_zip]
          exact hx
        · simp only [roundSt] at hk; rw [Tr.get_map] at hk; obtain ⟨_, _, hk⟩ := oM hk; cases hk
        · simp only [roundSt] at hk; rw [Tr.get_map] at hk; obtain ⟨_, _, hk⟩ := oM hk; cases hk
      refine roundIn_of_wpIn (F := FW none) trivial ?_
      rw [k5]
      refine UU (ro := some L.b) hN hm hA hE hR l.assign 0 (.inr g1) he rin fun e s1 hs I1 lam1 a1 w1 r1 => ?_
      unfold kBegin at hs
      split at hs
      case h_2 => cases hs
      rename_i l1 hl1
      obtain ⟨hst, hs⟩ := gB.1 hs
      have hL1 : I1[id]? = some L := zN r1.kp.pre hL
      obtain ⟨m0, r2, m1, m2, m3, m4, m5, m6, m7⟩ := r1.hp.obj id _ L hl1 hL1
      have hst := Nat.eq_of_beq_eq_true hst
      refine ⟨_, run_beginRound m1 (by rw [m2, hst]; rfl), ?_⟩
      have rb : Rel P B I h w I1 lam1 { s1 with h := s1.h.set id (.loop { l1 with st := 1 }) } a1 (w1.putObj L.b (.loop { r2 with state := .busy })) := by
        have hlt := (Array.getElem?_eq_some_iff.1 m1).1
        exact r1.putOwn hl1 hL1 rfl rfl ⟨m0, _, World.putObj_heap_same hlt, rfl, m3, m4, m5, m6, m7⟩
      rw [k6]
      refine UU (ro := some L.b) hN hm hA hE hR l.body 0 (.inr g2) hs rb fun e s3 hs I3 lam3 a3 w3 r3 => ?_
      unfold kRound at hs
      split at hs
      case h_2 => cases hs
      rename_i l3 hl3
      have hL3 : I3[id]? = some L := zN r3.kp.pre hL
      obtain ⟨m0, r4, m1, m2, m3, m4, m5, m6, m7⟩ := r3.hp.obj id _ L hl3 hL3
      have hlt := (Array.getElem?_eq_some_iff.1 m1).1
      cases e with
      | normal =>
        cases hs
        have rb := r3.putOwn (o' := .loop { l3 with st := 0, pend := none }) (O := .loop { r4 with state := .ready, pending := none }) hl3 hL3 rfl rfl ⟨m0, _, World.putObj_heap_same hlt, rfl, rfl, m4, m5, m6, m7⟩
        exact ⟨_, _, run_endRound none m1, I3, ⟨#[.bool true], ⟨rfl, trivial⟩, rfl⟩, rb.hp, rb.kp⟩
      | exit i =>
        cases hs
        have rb := r3.putOwn (o' := .loop { l3 with st := 2, pend := some (.exit i) }) (O := .loop { r4 with state := .done, pending := some (.exit i) }) hl3 hL3 rfl rfl ⟨m0, _, World.putObj_heap_same hlt, rfl, rfl, m4, m5, m6, m7⟩
        exact ⟨_, _, run_endRound (some (.exit i)) m1, I3, ⟨#[.bool false], ⟨rfl, trivial⟩, rfl⟩, rb.hp, rb.kp⟩
      | ret =>
        cases hs
        have rb := r3.putOwn (o' := .loop { l3 with st := 2, pend := some .ret }) (O := .loop { r4 with state := .done, pending := some .ret }) hl3 hL3 rfl rfl ⟨m0, _, World.putObj_heap_same hlt, rfl, rfl, m4, m5, m6, m7⟩
        exact ⟨_, _, run_endRound (some .ret) m1, I3, ⟨#[.bool false], ⟨rfl, trivial⟩, rfl⟩, rb.hp, rb.kp⟩
end Go.AM
namespace Go.AM
open Go.RowKit Go.ChangeShapes
section
variable {H : Type} {enc : TypeId × Value → H} {P : Program}
theorem Wu (hl : laidOutB P = true) {W W' : World} {sp : Nat → Bool} (hb : Below W.heap.size W W') : ∀ {ts : List TypeId} {vs : List Value} {ds : List (DataW H)} {ps : List MemPlace},
    (ts.all fun t => P.readableRec t && decide (t < P.types.size)) = true → DataW.TrodAll enc P W 0 (fun _ => true) true ts vs ds ps → (∀ p ∈ ps, p.block < W.heap.size) → (∀ p ∈ ps, sp p.block = true) → DataW.TrodAll enc P W' 0 sp true ts vs ds ps
  | [], [], [], ps, _, h, _, _ => h
  | t :: ts, v :: vs, d :: ds, ps, ht, h, hp, hs => by
    obtain ⟨p, q, h1, h2, rfl⟩ := h
    simp only [List.all_cons, Bool.and_eq_true, decide_eq_true_eq] at ht
    exact ⟨p, q, WideElems.Trod_stays hl ht.1.1 ht.1.2 h1 (fun x hx => hb.same (hp x (List.mem_append_left _ hx))) (fun x hx => hs x (List.mem_append_left _ hx)),
      Wu hl hb ht.2 h2 (fun x hx => hp x (List.mem_append_right _ hx)) (fun x hx => hs x (List.mem_append_right _ hx)), rfl⟩
  | [], _ :: _, _, _, _, h, _, _ => h.elim
  | [], [], _ :: _, _, _, h, _, _ => h.elim
  | _ :: _, [], _, _, _, h, _, _ => h.elim
  | _ :: _, _ :: _, [], _, _, h, _, _ => h.elim
theorem law_post (hl : laidOutB P = true) {f : Func} {s : ChangeSpec} {tb : TypeId} (hr : f.resultTypes = #[tb]) (htb : P.underlying tb = some .bool) (hv : s.vars = [])
    (hp : (f.params.toList.all fun t => P.readableRec t && decide (t < P.types.size)) = true)
    {W W' : World} {args : Array Value} {ds gs : List (DataW H)} {before : List MemPlace} (hW : DataW.Whole enc P f.params.toList s.vars false W args.toList ds gs before)
    (hs : s.fn H (ds ++ gs) = { results := [.lit (.bool true)], args := ds }) (hb : Below W.heap.size W W') : s.post enc P f false true false false W args (.bool true) W' := by
  have hlt := hW.lt
  have hW0 := hW
  obtain ⟨p, q, hA, hV, rfl, _, _⟩ := hW0
  rw [hv] at hV
  obtain ⟨rfl, rfl⟩ := trodVars_none hV
  refine ⟨ds, [], p ++ [], [], p, [], hW, ?_, ?_, ?_, hb.frame _, fun h => by cases h⟩
  · rw [hs, hr]
    simp only [Value.resultList]
    exact trodAll_mk1 ⟨1, by simp [DataW.trod, Value.cells, htb]⟩
  · rw [hs]
    exact Wu hl hb hp hA (fun x hx => hlt x (by simpa using hx)) (fun x hx => by simpa using hlt x (by simpa using hx))
  · rw [hv, hs]; rfl
end
theorem law_in {H : Type} {enc : TypeId × Value → H} {C : Checked} {os : Os} {f : FuncId} {fn : Func} {s : ChangeSpec} {conds : List PathCond} {tb : TypeId}
    (own : ownKnob C.prog.godebug = none) (started : os.Started) (noInit : C.prog.inits.idxOf? f = none) (hfn : C.prog.funcs[f]? = some fn)
    (witness : ∃ (w : World) (tape : Tape) (i : Input), w.os = os ∧ (w.forCall tape i).Shaped C.prog ∧ i.vars = [] ∧ Input.okWide C.prog (w.forCall tape i) .any w.heap.size f i ∧
      s.pre6 enc C.prog fn conds false (w.forCall tape i).memory i.args ∧ Assume.holds {} C.prog (lone (Frame.enter C.prog f i.args .normal) [] (w.forCall tape i)))
    (hl : laidOutB C.prog = true) (hr : fn.resultTypes = #[tb]) (htb : C.prog.underlying tb = some .bool) (hv : s.vars = [])
    (hp : (fn.params.toList.all fun t => C.prog.readableRec t && decide (t < C.prog.types.size)) = true)
    (hN : yj C.prog = true) (hm : C.prog.follows .mixedOrders = true) (An : FuncId → FAn) (hor : ∀ B f, Zj C.prog B (An f)) (hro : ∀ f k, xk (An f) (evF C.prog An dOk k))
    (run : ∀ (W : World) (base : Nat) (args : Array Value) (ds : List (DataW H)) (before : List MemPlace),
      (∀ (j : Nat) t v, fn.params[j]? = some t → args[j]? = some v → Value.okWide C.prog W .any base t v) →
      DataW.TrodAll enc C.prog W 0 (fun _ => true) true fn.params.toList args.toList ds before → (∀ p ∈ before, p.block < W.heap.size) →
      s.fn H ds = { results := [.lit (.bool true)], args := ds } ∧
      ∃ (I : List Loc) (avs : List AV) (h h' : AH) (k : Nat), AVRels I avs args.toList ∧ HRel C.prog W.heap.size I h W ∧ evF C.prog An dOk k (.func f) avs h = some ([.sc (.bool true)], h')) :
    ReturnsInHanded {} C os f .any (s.pre6 enc C.prog fn conds false) (s.post enc C.prog fn false true false false) := by
  refine returnsInHanded_of_change own started noInit hfn witness ?_
  intro W base args ds gs before hval hW _ _
  have hlt := hW.lt
  have hW0 := hW
  obtain ⟨p, q, hA, hV, rfl, _, _⟩ := hW0
  rw [hv] at hV
  obtain ⟨rfl, rfl⟩ := trodVars_none hV
  obtain ⟨hs, I, avs, h, h', k, hr1, hp1, hev⟩ := run W base args ds p hval hA (fun x hx => hlt x (by simpa using hx))
  have hc := callsIn_wide.1 (((evF_ok (B := W.heap.size) hN hm An (hor _) hro k).1 f avs h _ _ hev I W args.toList hr1 hp1 (Nat.le_refl _)).2)
  have e : args.toList.toArray = args := by simp
  rw [e] at hc
  refine hc.mono fun e W' he => ?_
  cases e with
  | returned v =>
    obtain ⟨I', ⟨arr, ha, hv'⟩, _, hk⟩ := he
    have hvb : v = .bool true := by
      obtain ⟨l⟩ := arr
      match l, ha with
      | [u], ⟨h1, _⟩ =>
        have h1' : u = .bool true := h1
        simp at hv'; rw [hv', h1']
    subst hvb
    exact ⟨_, rfl, law_post hl hr htb hv hp hW (by rw [List.append_nil]; exact hs) hk.bel⟩
  | panicked c => exact he.elim
  | outgrown => exact he.elim
end Go.AM
namespace Go.AM
open Go.RowKit
abbrev Tab := List (FuncId × (List AV → Option (Bool × List AV)))
def mkAn (base : List (FuncId × FAn)) (tab : Tab) : FuncId → FAn := fun f =>
  let A := ((base.find? fun p => Nat.beq p.1 f).map (·.2)).getD {}
  { loc := A.loc, keep := A.keep, rj := A.rj, iso := tab.map (·.1), orc := fun n as => (tab.find? fun p => Nat.beq p.1 n).bind fun p => p.2 as }
def NewOk (P : Program) (An : FuncId → FAn) : Tab → Prop
  | [] => True
  | p :: r => (∀ as q, p.2 as = some q → q.1 = true → ∃ k h', evF P An dOk k (.func p.1) as [] = some (q.2, h')) ∧ NewOk P An r
end Go.AM
namespace Go.AM.Tr
variable {α R : Type}
noncomputable def toL (t : Tr α) : List α := Tr.rec (motive := fun _ => List α) [] (fun v => [v]) (fun _ _ il ir => il ++ ir) t
end Go.AM.Tr
namespace Go.TM
open Go Go.AM
noncomputable section
inductive Ty where
  | int (k : IntKind)
  | bool
  | str
  | list (e : TypeId) (t : Ty)
  | pair (a b : Ty)
  | unit
  deriving Inhabited, DecidableEq
def Ty.T : Ty → Type
  | .int _ => Int
  | .bool => Bool
  | .str => ByteArray
  | .list _ t => List t.T
  | .pair a b => a.T × b.T
  | .unit => Unit
def Ty.dflt : (t : Ty) → t.T
  | .int _ => (0 : Int)
  | .bool => false
  | .str => ByteArray.empty
  | .list _ _ => []
  | .pair a b => (a.dflt, b.dflt)
  | .unit => ()
def Ty.size : Ty → Nat
  | .int _ | .bool | .str | .list _ _ => 1
  | .pair a b => a.size + b.size
  | .unit => 0
inductive TC where
  | bool (b : Bool)
  | int (k : IntKind) (n : Int)
  | str (s : ByteArray)
  | d (e : TypeId) (t : Ty) (xs : List t.T)
  | nil
  | g (id : Nat)
  | sl (id off len : Nat)
  | sc (id off len : Nat)
  | ptr (id off : Nat)
  | fn (f : FuncId) (nf : Nat) (shape : List (Option Nat)) (cells : List TC)
  | nilp
  | nilf
  | nili
  | yl (id : Nat)
  deriving Inhabited
inductive TA where
  | sc (c : TC)
  | agg (cs : List TC)
  deriving Inhabited
def TA.cells : TA → List TC
  | .sc c => [c]
  | .agg cs => cs
inductive TV where
  | u
  | no
  | v (a : TA)
  | t (vs : List TA)
  | l (k off : Nat)
  | s (k n : Nat)
  | e (t : Ty) (xs : List t.T) (i off : Nat)
  | p (id i off : Nat)
  | w
  deriving Inhabited
inductive TO where
  | row (e : TypeId) (t : Ty) (xs : List t.T)
  | crow (e : TypeId) (cells : List TC)
  | box (e : TypeId) (cells : List TC)
  | dead
  | loop (st : Nat) (pend : Option Ex) (f : FuncId) (key nt : Nat) (sl : List (Nat × TV))
  deriving Inhabited
abbrev TH := List TO
structure TS where
  sl : Tr TV
  lo : Tr (Option (List TC))
  h : TH
  n0 : Nat
  deriving Inhabited
def Ty.cells : (t : Ty) → t.T → List TC
  | .int k, n => [.int k n]
  | .bool, b => [.bool b]
  | .str, s => [.str s]
  | .list e t, xs => [.d e t xs]
  | .pair a b, p => a.cells p.1 ++ b.cells p.2
  | .unit, _ => []
def Ty.cellsL (t : Ty) (xs : List t.T) : List TC := xs.flatMap t.cells
section
variable {R : Type}
def asSc (v : TA) (c : TC → Option R) : Option R := match v with | .sc s => c s | .agg _ => none
def asAgg (v : TA) (c : List TC → Option R) : Option R := match v with | .agg l => c l | .sc _ => none
def asB (v : TC) (c : Bool → Option R) : Option R := match v with | .bool b => c b | _ => none
def asI (k : IntKind) (v : TC) (c : Int → Option R) : Option R := match v with | .int k' n => if k' = k then c n else none | _ => none
def asStr (v : TC) (c : ByteArray → Option R) : Option R := match v with | .str s => c s | _ => none
def asD (e : TypeId) (t : Ty) (v : TC) (c : List t.T → Option R) : Option R :=
  match v with
  | .d e' t' xs => guardB (Nat.beq e e') (if h : t' = t then c (h ▸ xs) else none)
  | .nil => c []
  | _ => none
def mkT : (t : Ty) → List TC → (t.T → List TC → Option R) → Option R
  | .int k, l, c => asC l fun x r => asI k x fun n => c n r
  | .bool, l, c => asC l fun x r => asB x fun b => c b r
  | .str, l, c => asC l fun x r => asStr x fun s => c s r
  | .list e t, l, c => asC l fun x r => asD e t x fun xs => c xs r
  | .pair a b, l, c => mkT a l fun x r => mkT b r fun y q => c (x, y) q
  | .unit, l, c => c () l
def mk1 (t : Ty) (l : List TC) (c : t.T → Option R) : Option R := mkT t l fun x r => asN r (c x)
def mkN (t : Ty) : Nat → List TC → (List t.T → Option R) → Option R
  | 0, l, c => asN l (c [])
  | n + 1, l, c => mkT t l fun x r => mkN t n r fun xs => c (x :: xs)
end
def Vo : List Ty → Ty
  | [] => .unit
  | [a] => a
  | a :: r => .pair a (Vo r)
def mapO {α β : Type} (f : α → Option β) : List α → Option (List β)
  | [] => some []
  | x :: r => (f x).bind fun y => (mapO f r).bind fun ys => some (y :: ys)
def ZC (P : Program) : Nat → TypeId → Option Ty
  | 0, _ => none
  | d + 1, t =>
    match P.underlying t with
    | some (.int k) => some (.int k)
    | some .bool => some .bool
    | some .string => some .str
    | some (.slice e) => (ZC P d e).bind fun t => some (.list e t)
    | some (.struct fs) => (mapO (fun f => ZC P d f.type) fs.toList).bind fun l => some (Vo l)
    | some (.array n e) => (ZC P d e).bind fun a => some (Vo (List.replicate n a))
    | _ => none
def elT {R : Type} (P : Program) (e : TypeId) (c : Ty → Option R) : Option R :=
  match ZC P 8 e with
  | some t => guardB (Nat.beq t.size (P.cellsOf e) && (P.info? e).isSome) (c t)
  | none => none
def ofConst : Value → Option TC
  | .bool b => some (.bool b)
  | .int k n => some (.int k n)
  | .string s => some (.str s)
  | .pointer none => some .nilp
  | .slice none 0 0 => some .nil
  | .nilFunc => some .nilf
  | .nilIface => some .nili
  | _ => none
def ofConsts : List Value → Option (List TC)
  | [] => some []
  | v :: r => (ofConst v).bind fun x => (ofConsts r).bind fun xs => some (x :: xs)
def zeroCells (P : Program) (t : TypeId) : Option (List TC) := (P.info? t).bind fun i => i.zero.bind fun z => ofConsts z.cells.toList
def toSc : TC → Option Sc
  | .bool b => some (.bool b)
  | .int k n => some (.int k n)
  | .str s => some (.str s)
  | _ => none
def Vs : List TC → Option (List Sc)
  | [] => some []
  | x :: r => (toSc x).bind fun y => (Vs r).bind fun ys => some (y :: ys)
def ofSc : Sc → Option TC
  | .bool b => some (.bool b)
  | .int k n => some (.int k n)
  | .str s => some (.str s)
  | _ => none
mutual
def TC.refs : TC → List Nat
  | .g id | .sl id _ _ | .sc id _ _ | .ptr id _ | .yl id => [id]
  | .fn _ _ _ cs => TC.refsL cs
  | _ => []
def TC.refsL : List TC → List Nat
  | [] => []
  | c :: r => c.refs ++ TC.refsL r
end
def TA.refs (v : TA) : List Nat := TC.refsL v.cells
def TV.refs : TV → List Nat
  | .v a => a.refs
  | .t vs => vs.flatMap TA.refs
  | .p id _ _ => [id]
  | _ => []
def TO.refs : TO → List Nat
  | .crow _ cs | .box _ cs => TC.refsL cs
  | .loop _ _ _ _ _ sl => sl.flatMap fun p => p.2.refs
  | _ => []
mutual
def TC.ren (f : Nat → Nat) : TC → TC
  | .g id => .g (f id)
  | .sl id o n => .sl (f id) o n
  | .sc id o n => .sc (f id) o n
  | .ptr id o => .ptr (f id) o
  | .fn g' nf sh cs => .fn g' nf sh (TC.renL f cs)
  | .bool b => .bool b
  | .int k n => .int k n
  | .str s => .str s
  | .d e t xs => .d e t xs
  | .nil => .nil
  | .nilp => .nilp
  | .nilf => .nilf
  | .nili => .nili
  | .yl id => .yl (f id)
def TC.renL (f : Nat → Nat) : List TC → List TC
  | [] => []
  | c :: r => c.ren f :: TC.renL f r
end
def TA.ren (f : Nat → Nat) : TA → TA
  | .sc c => .sc (c.ren f)
  | .agg cs => .agg (TC.renL f cs)
def TV.ren (f : Nat → Nat) : TV → TV
  | .v a => .v (a.ren f)
  | .t vs => .t (vs.map (TA.ren f))
  | .p id i o => .p (f id) i o
  | .u => .u
  | .w => .w
  | .no => .no
  | .l k o => .l k o
  | .s k n => .s k n
  | .e ty xs i o => .e ty xs i o
def TO.ren (f : Nat → Nat) : TO → TO
  | .crow e cs => .crow e (TC.renL f cs)
  | .box e cs => .box e (TC.renL f cs)
  | .row e t xs => .row e t xs
  | .dead => .dead
  | .loop st pe g key nt sl => .loop st pe g key nt (sl.map fun p => (p.1, p.2.ren f))
def zn (h : TH) (i : Nat) : TO := h.getD i .dead
def yG (l : List Nat) (i : Nat) : Bool := l.any fun j => Nat.beq i j
def yV : List Nat → Nat → Nat
  | [], _ => 0
  | x :: r, i => cond (Nat.beq i x) 0 (yV r i + 1)
def YR (h : TH) : Nat → List Nat → List Nat → List Nat
  | 0, _, acc => acc
  | _ + 1, [], acc => acc
  | k + 1, i :: todo, acc => cond (yG acc i) (YR h k todo acc) (YR h k ((zn h i).refs ++ todo) (acc ++ [i]))
def Um : List Nat → Bool
  | [] => true
  | x :: r => !(yG r x) && Um r
end
end Go.TM
namespace Go.TM
open Go Go.AM
noncomputable section
section
variable {R : Type}
def cutK (c : List TC) (off n : Nat) (k : List TC → Option R) : Option R := guardB (decide (off + n ≤ c.length)) (k ((c.drop off).take n))
def putK (c : List TC) (off : Nat) (v : List TC) (k : List TC → Option R) : Option R := guardB (decide (off + v.length ≤ c.length)) (k (splice c off v))
def elems (h : TH) (e : TypeId) (t : Ty) (v : TC) (c : List t.T → Option Nat → Option R) : Option R :=
  match v with
  | .g id => match zn h id with
    | .row e' t' xs => asD e t (.d e' t' xs) fun xs => c xs (some id)
    | _ => none
  | .sl id o n => match zn h id with
    | .row e' t' xs => asD e t (.d e' t' xs) fun xs => guardB (decide (o + n ≤ xs.length)) (c ((xs.drop o).take n) (some id))
    | _ => none
  | .sc id o n => match zn h id with
    | .box _ cs => cutK cs o (n * t.size) fun l => mkN t n l fun xs => c xs (some id)
    | .crow e' cs => guardB (Nat.beq e e') <| cutK cs o (n * t.size) fun l => mkN t n l fun xs => c xs (some id)
    | _ => none
  | v => asD e t v fun xs => c xs none
def seqK (f : TC → TH → (TC → TH → Option R) → Option R) : List TC → TH → (List TC → TH → Option R) → Option R
  | [], h, c => c [] h
  | x :: r, h, c => f x h fun y h => seqK f r h fun ys h => c (y :: ys) h
def frzC (P : Program) : Nat → TC → TH → (TC → TH → Option R) → Option R
  | 0, _, _, _ => none
  | k + 1, v, h, c => match v with
    | .g id => match zn h id with
      | .row e t xs => c (.d e t xs) (h.set id .dead)
      | _ => none
    | .sl id o n => match zn h id with
      | .row e t xs => guardB (decide (o + n ≤ xs.length)) (c (.d e t ((xs.drop o).take n)) (h.set id .dead))
      | _ => none
    | .sc id o n => match zn h id with
      | .crow e cs => elT P e fun t => cutK cs o (n * t.size) fun l => seqK (frzC P k) l (h.set id .dead) fun l h => mkN t n l fun xs => c (.d e t xs) h
      | _ => none
    | v => c v h
def frzL (P : Program) (l : List TC) (h : TH) (c : List TC → TH → Option R) : Option R := seqK (frzC P 3) l h c
end
def Vw (P : Program) : Nat → TypeId → List (Option TypeId)
  | 0, _ => []
  | d + 1, t =>
    match P.underlying t with
    | some (.struct fs) => fs.toList.flatMap fun f => Vw P d f.type
    | some (.array n e) => (List.replicate n (Vw P d e)).flatten
    | some (.slice e) => [some e]
    | _ => [none]
structure CS where
  sl : List (Nat × TV)
  lo : List (Nat × List TC)
  h : TH
  n0 : Nat
  w : Bool := false
  deriving Inhabited
structure TAn where
  a : FAn := {}
  own : Bool := false
  crow : List Tmp := []
  cuts : List Nat := []
  live : List (Nat × List Nat × List Nat) := []
  coe : List (Nat × List ((Nat × Nat × Nat) × TypeId × Bool)) := []
  orc : FuncId → List TA → TH → Option (List (Bool × List TA × TH)) := fun _ _ _ => none
  tell : Nat → CS → Option (List (Bool × Ex × CS)) := fun _ _ => none
  nt : Nat := 0
  deriving Inhabited
abbrev TEv := FuncId → List TA → TH → Option (List TA × TH)
section
variable {R : Type}
def setSl (s : TS) (d : Option Tmp) (v : TV) : TS := match d with | some d => { s with sl := s.sl.set d v } | none => s
def setK (s : TS) (d : Option Tmp) (v : TV) (c : TS → Option R) : Option R := match d with | some d => s.sl.setT d v fun l => c { s with sl := l } | none => c s
def killL (d : Nat) : TV → TV
  | .l k o => cond (Nat.beq k d) .u (.l k o)
  | .s k n => cond (Nat.beq k d) .u (.s k n)
  | x => x
def newLocal (s : TS) (d : Tmp) (a : TV) (c : List TC) : TS := { s with sl := (s.sl.map (killL d)).set d a, lo := s.lo.set d (some c) }
def newLocalK (s : TS) (d : Tmp) (a : TV) (cs : List TC) (c : TS → Option R) : Option R :=
  (s.sl.map (killL d)).setT d a fun l => s.lo.setT d (some cs) fun m => c { s with sl := l, lo := m }
def evA (s : TS) : Operand → Option TV
  | .tmp t => s.sl.get t
  | .const v => (ofConst v).bind fun x => some (.v (.sc x))
  | .func f => some (.v (.sc (.fn f 0 [] [])))
  | .global _ => none
def TV.val : TV → Option TA
  | .v x => some x
  | _ => none
def evV (s : TS) (x : Operand) : Option TA := (evA s x).bind TV.val
def evVs (s : TS) : List Operand → Option (List TA)
  | [] => some []
  | x :: r => (evV s x).bind fun v => (evVs s r).bind fun vs => some (v :: vs)
def evParts (s : TS) : List (Nat × Operand) → Option (List (Nat × TA))
  | [] => some []
  | (i, x) :: r => (evV s x).bind fun v => (evParts s r).bind fun vs => some ((i, v) :: vs)
def asLeaf (l : Leaf) (v : TC) (c : TC → Option R) : Option R :=
  match l with
  | .int k => asI k v fun n => c (.int k n)
  | .bool => asB v fun b => c (.bool b)
  | .any => c v
def asLeaves : List Leaf → List TC → (List TC → Option R) → Option R
  | [], l, c => asN l (c [])
  | f :: fs, l, c => asC l fun x xs => asLeaf f x fun y => asLeaves fs xs fun ys => c (y :: ys)
def typed1 (P : Program) (t : TypeId) (v : TA) (c : TA → Option R) : Option R :=
  cond (yB P t) (asAgg v fun l => asLeaves (yo P 8 t) l fun ys => c (.agg ys)) (asSc v fun x => asLeaf ((yo P 8 t).getD 0 .any) x fun y => c (.sc y))
def typedAll (P : Program) : List TypeId → List TA → (List TA → Option R) → Option R
  | [], l, c => asN l (c [])
  | t :: ts, l, c => asC l fun x xs => typed1 P t x fun y => typedAll P ts xs fun ys => c (y :: ys)
def typed (P : Program) (t : TypeId) (vs : List TA) (c : TV → Option R) : Option R :=
  match P.underlying t with
  | some (.tuple ts) => typedAll P ts.toList vs fun ys => guardB (!(Nat.beq ys.length 1)) (c (.t ys))
  | _ => asC vs fun x xs => asN xs (typed1 P t x fun y => c (.v y))
def pickB (t : Bool) (a b : Option TV) (c : TV → Option R) : Option R :=
  match a, b with
  | some (.v (.sc (.bool x))), some (.v (.sc (.bool y))) => c (.v (.sc (.bool (cond t x y))))
  | a, b => cond t (a.bind c) (b.bind c)
def opOk (op : BinOp) (y : TA) : Bool :=
  match op, y with
  | .quo, .sc (.int _ b) | .rem, .sc (.int _ b) => decide (b ≠ 0)
  | .shl, .sc (.int _ b) | .shr, .sc (.int _ b) => decide (0 ≤ b)
  | _, _ => true
def binop (P : Program) (op : BinOp) (t : TypeId) (x y : TA) : Option TC :=
  match x, y with
  | .sc (.int k a), .sc (.int k' b) => guardB (decide (k = k') || Vm op) ((QX op k a b).bind ofSc)
  | .sc (.bool a), .sc (.bool b) =>
    match op, P.underlying t with
    | .eql, some .bool => some (.bool (a == b))
    | .neq, some .bool => some (.bool (!(a == b)))
    | _, _ => none
  | .agg a, .agg b =>
    guardB (!(P.eqGuardType P.depth t)) <|
    (Vs a).bind fun a => (Vs b).bind fun b =>
    match op with
    | .eql => (eqV P 9 t (.agg a) (.agg b)).bind fun r => some (.bool r)
    | .neq => (eqV P 9 t (.agg a) (.agg b)).bind fun r => some (.bool (!r))
    | _ => none
  | _, _ => none
def unop (op : UnOp) (x : TA) : Option TC :=
  match op, x with
  | .neg, .sc (.int k n) => some (.int k (k.wrap (0 - n)))
  | .not, .sc (.bool b) => some (.bool (!b))
  | _, _ => none
def mx2 (x y : TA) : Option TA :=
  match x, y with
  | .sc (.int k x), .sc (.int k' y) => guardB (decide (k = k')) (some (.sc (.int k (max x y))))
  | _, _ => none
def mn2 (x y : TA) : Option TA :=
  match x, y with
  | .sc (.int k x), .sc (.int k' y) => guardB (decide (k = k')) (some (.sc (.int k (min x y))))
  | _, _ => none
def foldO (f : TA → TA → Option TA) : TA → List TA → Option TA
  | x, [] => some x
  | x, y :: r => (f x y).bind fun z => foldO f z r
def put (c : List TC) (off : Nat) (v : List TC) : Option (List TC) := guardB (decide (off + v.length ≤ c.length)) (some (splice c off v))
def fillA (pl : Nat → Option (Nat × Nat)) : List TC → List (Nat × TA) → Option (List TC)
  | cells, [] => some cells
  | cells, (i, v) :: r => (pl i).bind fun p => guardB (Nat.beq v.cells.length p.2) ((put cells p.1 v.cells).bind fun c => fillA pl c r)
def repC (n : Nat) (l : List TC) : List TC := (List.replicate n l).flatten
def spread : List (Option Nat) → List TC → Option (List TA)
  | [], [] => some []
  | none :: r, c => asC c fun x xs => (spread r xs).bind fun vs => some (.sc x :: vs)
  | some n :: r, c => guardB (decide (n ≤ c.length)) ((spread r (c.drop n)).bind fun vs => some (.agg (c.take n) :: vs))
  | [], _ :: _ => none
def shapeOf : TA → Option Nat
  | .sc _ => none
  | .agg c => some c.length
def loadAt (s : TS) (a : TV) (n : Nat) (c : List TC → Option R) : Option R :=
  match a with
  | .l k off => (s.lo.get k).bind fun b => b.bind fun cs => cutK cs off n c
  | .v (.sc (.ptr id off)) => match zn s.h id with
    | .box _ cs | .crow _ cs => cutK cs off n c
    | _ => none
  | .e t xs i off => cutK (t.cells (xs.getD i t.dflt)) off n c
  | .p id i off => match zn s.h id with
    | .row _ t xs => guardB (decide (i < xs.length)) (cutK (t.cells (xs.getD i t.dflt)) off n c)
    | _ => none
  | _ => none
def load1 (s : TS) (a : TV) (c : TC → Option R) : Option R := loadAt s a 1 fun l => asC l fun x r => asN r (c x)
def storeAt (P : Program) (s : TS) (a : TV) (v : List TC) (c : TS → Option R) : Option R :=
  match a with
  | .l k off => (s.lo.get k).bind fun b => b.bind fun cs => putK cs off v fun cs' => s.lo.setT k (some cs') fun m => c { s with lo := m }
  | .v (.sc (.ptr id off)) => match zn s.h id with
    | .box e cs => putK cs off v fun cs' => c { s with h := s.h.set id (.box e cs') }
    | .crow e cs => putK cs off v fun cs' => c { s with h := s.h.set id (.crow e cs') }
    | _ => none
  | .p id i off => frzL P v s.h fun v h => match zn h id with
    | .row e t xs => guardB (decide (i < xs.length)) <| putK (t.cells (xs.getD i t.dflt)) off v fun cs => mk1 t cs fun x => c { s with h := h.set id (.row e t (xs.set i x)) }
    | _ => none
  | _ => none
def addAt (a : TV) (n : Nat) (c : TV → Option R) : Option R :=
  match a with
  | .l k off => c (.l k (off + n))
  | .v (.sc (.ptr id off)) => c (.v (.sc (.ptr id (off + n))))
  | .e t xs i off => c (.e t xs i (off + n))
  | .p id i off => c (.p id i (off + n))
  | _ => none
def isAddr : TV → Bool
  | .l _ _ | .v (.sc (.ptr _ _)) | .e _ _ _ _ | .p _ _ _ => true
  | _ => false
def idxI (i : TA) (n : Nat) (c : Nat → Option R) : Option R :=
  match i with
  | .sc (.int _ i) => guardB (decide (0 ≤ i)) (guardB (decide (i < (n : Int))) (c i.toNat))
  | _ => none
def boundI (s : TS) (x : Option Operand) (dflt : Nat) (c : Nat → Option R) : Option R :=
  match x with
  | none => c dflt
  | some x => (evV s x).bind fun v => match v with
    | .sc (.int _ i) => guardB (decide (0 ≤ i)) (c i.toNat)
    | _ => none
def lenC (h : TH) (v : TC) (c : Nat → Option R) : Option R :=
  match v with
  | .d _ _ xs => c xs.length
  | .nil => c 0
  | .g id => match zn h id with | .row _ _ xs => c xs.length | _ => none
  | .sl _ _ n => c n
  | .sc _ _ n => c n
  | _ => none
def cutS (h : TH) (e : TypeId) (z : Nat) (whole : Bool) (v : TC) (l r : Nat) (c : TC → Option R) : Option R :=
  match v with
  | .d e' t xs => guardB (Nat.beq e e' && Nat.beq z t.size) (c (.d e' t ((xs.take r).drop l)))
  | .nil => c .nil
  | .g id => match zn h id with | .row e' _ _ => guardB (Nat.beq e e') (c (cond whole (.g id) (.sl id l (r - l)))) | _ => none
  | .sl id o _ => match zn h id with | .row e' _ _ => guardB (Nat.beq e e') (c (.sl id (o + l) (r - l))) | _ => none
  | .sc id o _ => match zn h id with | .crow e' _ => guardB (Nat.beq e e') (c (.sc id (o + l * z) (r - l))) | .box _ _ => c (.sc id (o + l * z) (r - l)) | _ => none
  | _ => none
def sliceS (s : TS) (e : TypeId) (z : Nat) (x : TC) (lo hi mx : Option Operand) (c : TC → Option R) : Option R :=
  lenC s.h x fun n => boundI s lo 0 fun l => boundI s hi n fun r => boundI s mx r fun m =>
    guardB (mx.isNone || hi.isSome) <| guardB (decide (l ≤ r)) <| guardB (decide (r ≤ m)) <| guardB (decide (m ≤ n)) (cutS s.h e z (lo.isNone && hi.isNone) x l r fun v => c (cond (mx0 mx) .nil v))
def srcT (P : Program) (s : TS) (e : TypeId) (t : Ty) (a : TV) (c : List t.T → TH → Option R) : Option R :=
  match a with
  | .s k n => (s.lo.get k).bind fun b => b.bind fun cs => cutK cs 0 (n * t.size) fun l => frzL P l s.h fun l h => mkN t n l fun xs => c xs h
  | .v (.sc x) => elems s.h e t x fun xs _ => c xs s.h
  | _ => none
def lenA (s : TS) (a : TV) (c : Nat → Option R) : Option R :=
  match a with
  | .s _ n => c n
  | .v (.sc x) => lenC s.h x c
  | _ => none
def appendS (h : TH) (e : TypeId) (t : Ty) (x : TC) (new : List t.T) (c : TC → TH → Option R) : Option R :=
  match x with
  | .nil => guardB (decide (new.length ≤ most)) (c (.g h.length) (h ++ [.row e t new]))
  | .g id => match zn h id with
    | .row e' t' xs => asD e t (.d e' t' xs) fun xs => guardB (decide (xs.length + new.length ≤ most)) (c (.g h.length) (h.set id .dead ++ [.row e t (xs ++ new)]))
    | _ => none
  | _ => none
def copyS (h : TH) (e : TypeId) (t : Ty) (x : TC) (new : List t.T) (c : TH → Option R) : Option R :=
  match x with
  | .g id => match zn h id with
    | .row e' t' xs => asD e t (.d e' t' xs) fun xs => c (h.set id (.row e t (new.take xs.length ++ xs.drop new.length)))
    | _ => none
  | .sl id o n => match zn h id with
    | .row e' t' xs => asD e t (.d e' t' xs) fun xs => guardB (decide (o + n ≤ xs.length)) (c (h.set id (.row e t (xs.take o ++ new.take n ++ xs.drop (o + min n new.length)))))
    | _ => none
  | _ => none
end
end
noncomputable section
section
variable {R : Type} (P : Program) (A : TAn) (ev : TEv)
def QZ (h : TH) (ord : List Nat) (t : Option TypeId) (v : TC) (c : TC → List Nat → Option R) : Option R :=
  match v with
  | .g id => cond (yG ord id) (c (.g (yV ord id)) []) (match zn h id with | .row e t xs => c (.d e t xs) [id] | _ => none)
  | .sl id o n => cond (yG ord id) (c (.sl (yV ord id) o n) []) (match zn h id with | .row e t xs => guardB (decide (o + n ≤ xs.length)) (c (.d e t ((xs.drop o).take n)) [id]) | _ => none)
  | .sc id o n => cond (yG ord id) (c (.sc (yV ord id) o n) []) (match t with | some e => elT P e fun t => elems h e t (.sc id o n) fun xs _ => c (.d e t xs) [id] | none => none)
  | .nil => match t with | some e => (match ZC P 8 e with | some t => c (.d e t []) [] | none => c .nil []) | none => c .nil []
  | .fn f nf sh cs => guardB ((TC.refsL cs).all (yG ord)) (c (.fn f nf sh (TC.renL (yV ord) cs)) [])
  | .ptr id o => guardB (yG ord id) (c (.ptr (yV ord id) o) [])
  | .yl id => guardB (yG ord id) (c (.yl (yV ord id)) [])
  | v => c v []
def Up (h : TH) (ord : List Nat) : List (Option TypeId) → List TC → (List TC → List Nat → Option R) → Option R
  | _, [], c => c [] []
  | t, x :: r, c => QZ P h ord (t.headD none) x fun y l => Up h ord t.tail r fun ys m => c (y :: ys) (l ++ m)
def lendA (h : TH) (ord : List Nat) (t : Option TypeId) (v : TA) (c : TA → List Nat → Option R) : Option R :=
  match v with
  | .sc x => QZ P h ord ((t.map fun t => (Vw P 8 t).headD none).getD none) x fun y l => c (.sc y) l
  | .agg xs => Up P h ord ((t.map fun t => Vw P 8 t).getD []) xs fun ys l => c (.agg ys) l
def Wx (h : TH) (ord : List Nat) : List (Option TypeId) → List TA → (List TA → List Nat → Option R) → Option R
  | _, [], c => c [] []
  | t, x :: r, c => lendA P h ord (t.headD none) x fun y l => Wx h ord t.tail r fun ys m => c (y :: ys) (l ++ m)
def rootsC : TC → List Nat
  | .ptr id _ => [id]
  | .fn _ _ _ cs => TC.refsL cs
  | .yl id => [id]
  | _ => []
def rootsA (v : TA) : List Nat := v.cells.flatMap rootsC
def WY : TC → Bool
  | .bool _ | .int _ _ | .str _ | .nilp | .nilf | .nili => true
  | _ => false
def Uc (h : TH) (ord : List Nat) : Bool := Um ord && ord.all fun i => Nat.blt i h.length && (zn h i).refs.all (yG ord)
def Zy (h : TH) (ord : List Nat) (i : Nat) : Nat := cond (Nat.blt i ord.length) (ord.getD i 0) (h.length + (i - ord.length))
def xH (h : TH) (ord lent : List Nat) (h' : TH) : TH :=
  (h.zipIdx.map fun p => cond (yG ord p.2) ((zn h' (yV ord p.2)).ren (Zy h ord)) (cond (yG lent p.2) .dead p.1)) ++ (h'.drop ord.length).map (TO.ren (Zy h ord))
def xO : List (Bool × List TA × TH) → (List TA → TH → Option R) → Option R
  | [], _ => none
  | (b, rs, h) :: r, c => cond b (c rs h) (xO r c)
def YG (f : FuncId) (ts : List (Option TypeId)) (as : List TA) (h : TH) (c : List TA → TH → Option R) : Option R :=
  let ord := YR h 100 (as.flatMap rootsA) []
  guardB (Uc h ord) <|
  Wx P h ord ts as fun as' lent =>
  let sub := ord.map fun i => (zn h i).ren (yV ord)
  let fin := fun (rs : List TA) (h' : TH) =>
    cond (ord.isEmpty && h'.isEmpty && rs.all fun v => v.cells.all WY) (c rs h) <|
    guardB (Nat.ble ord.length h'.length) (c (rs.map (TA.ren (Zy h ord))) (xH h ord lent h'))
  match A.orc f as' sub with
  | some alts => xO alts fin
  | none => (ev f as' sub).bind fun p => fin p.1 p.2
def YF : FuncId := 4294967295
def ontoK (x : Operand) (v : TV) (c : TC → Option R) : Option R :=
  match x with
  | .tmp d => cond (A.a.loc.contains d) (match v with | .s _ n => guardB (Nat.beq n 0) (c .nil) | _ => none) (v.val.bind fun v => asSc v c)
  | _ => v.val.bind fun v => asSc v c
def builtinK (b : Builtin) (ts : List TypeId) (args : List Operand) (s : TS) (c : TV → TS → Option R) : Option R :=
  match b, ts, args with
  | .len, [ty], [x] =>
    match P.underlying ty with
    | some (.slice _) => (evA s x).bind fun a => lenA s a fun n => c (.v (.sc (.int .i64 n))) s
    | some (.array n _) => c (.v (.sc (.int .i64 n))) s
    | _ => none
  | .max, _, x :: r => (evV s x).bind fun v => (evVs s r).bind fun vs => (foldO mx2 v vs).bind fun z => c (.v z) s
  | .min, _, x :: r => (evV s x).bind fun v => (evVs s r).bind fun vs => (foldO mn2 v vs).bind fun z => c (.v z) s
  | .append, [ty, ty2], [x, y] =>
    (AM.elemOf P ty).bind fun e => (zeroCells P e).bind fun z => guardB ((AM.elemOf P ty2).isSome && decide (P.bytesOf e ≤ 8192) && Nat.beq z.length (P.cellsOf e)) <| elT P e fun t =>
      (evA s x).bind fun xv => ontoK A x xv fun xs => (evA s y).bind fun a => srcT P s e t a fun new h => appendS h e t xs new fun v h => c (.v (.sc v)) { s with h := h }
  | .copy, [ty, ty2], [x, y] =>
    (AM.elemOf P ty).bind fun e => guardB ((AM.elemOf P ty2).isSome && (P.info? e).isSome) <| elT P e fun t =>
      (evV s x).bind fun xv => asSc xv fun xs => (evA s y).bind fun a => lenC s.h xs fun n => srcT P s e t a fun new h => copyS h e t xs new fun h => c (.v (.sc (.int .i64 (min new.length n : Nat)))) { s with h := h }
  | _, _, _ => none
def onlyL (x : Operand) (v : TV) : Bool :=
  match x with
  | .tmp d => !(A.a.loc.contains d) || (match v with | .l _ _ => true | _ => false)
  | _ => true
def onlyH (x : Operand) (v : TV) : Bool :=
  match x with
  | .tmp d => !(A.a.hst.contains d) || (match v with | .v _ | .e _ _ _ _ | .p _ _ _ => true | _ => false)
  | _ => true
def onlyR (x : Operand) (v : TV) : Bool :=
  match AM.rootOf A.a x with
  | none => true
  | some k => match v with | .l k' _ => Nat.beq k k' | _ => false
def onlyB (h : TH) (x : Operand) (v : TV) : Bool :=
  match x with
  | .tmp d => !(A.a.ldb.contains d) || (match v with | .v (.sc (.ptr id _)) => (match zn h id with | .box _ _ => true | _ => false) | _ => false)
  | _ => true
def onlyX (h : TH) (x : Operand) (v : TV) : Bool := onlyH A x v && onlyR A x v && onlyB A h x v
def onlyS (x : Operand) (v : TV) : Bool := onlyH A x v && onlyR A x v
def evOp (o : Oper) (s : TS) (c : TS → Option R) : Option R :=
  match o.op with
  | .move x | .assign x => (evA s x).bind fun v => setK s o.dst v c
  | .pick q a b => (evV s q).bind fun v => asSc v fun v => asB v fun t => pickB t (evA s a) (evA s b) fun v => setK s o.dst v c
  | .alloc e => o.dst.bind fun d => (zeroCells P e).bind fun z => guardB (Nat.beq z.length (P.cellsOf e)) <|
      cond (A.a.loc.contains d) (newLocalK s d (.l d 0) z c) (setK { s with h := s.h ++ [.box e z] } o.dst (.v (.sc (.ptr s.h.length 0))) c)
  | .box e x => o.dst.bind fun d => (evV s x).bind fun v => guardB (Nat.beq v.cells.length (P.cellsOf e)) <|
      cond (A.a.loc.contains d) (newLocalK s d (.l d 0) v.cells c) (setK { s with h := s.h ++ [.box e v.cells] } o.dst (.v (.sc (.ptr s.h.length 0))) c)
  | .build t parts => (zeroCells P t).bind fun z => (places P t).bind fun pl => (evParts s parts.toList).bind fun vs => (fillA pl z vs).bind fun cs => setK s o.dst (.v (.agg cs)) c
  | .buildSlice t n parts => o.dst.bind fun d => (AM.elemOf P t).bind fun e => (zeroCells P e).bind fun z => guardB (Nat.beq z.length (P.cellsOf e) && decide (n * z.length ≤ 1000000)) <|
      (evParts s parts.toList).bind fun vs => (fillA (fun i => some (i * P.cellsOf e, P.cellsOf e)) (repC n z) vs).bind fun cs =>
      cond (A.a.loc.contains d) (newLocalK s d (.s d n) cs c) <|
      cond (A.crow.contains d) (setK { s with h := s.h ++ [.crow e cs] } o.dst (.v (.sc (.sc s.h.length 0 n))) c) <|
      elT P e fun t => frzL P cs s.h fun cs h => mkN t n cs fun xs => setK { s with h := h ++ [.row e t xs] } o.dst (.v (.sc (.g h.length))) c
  | .load t x => guardB (P.underlying t).isSome <| (evA s x).bind fun a => guardB (onlyL A x a && onlyX A s.h x a) <| cond (yB P t) (loadAt s a (P.cellsOf t) fun l => asLeaves (yo P 8 t) l fun ys => setK s o.dst (.v (.agg ys)) c)
      (load1 s a fun x => asLeaf ((yo P 8 t).getD 0 .any) x fun y => setK s o.dst (.v (.sc y)) c)
  | .store t a x => guardB (P.info? t).isSome <| (evA s a).bind fun av => (evV s x).bind fun v => guardB (Nat.beq v.cells.length (P.cellsOf t) && onlyS A a av) <| storeAt P s av v.cells fun s => setK s o.dst .no c
  | .nilCheck x => (evA s x).bind fun v => guardB (isAddr v) (setK s o.dst v c)
  | .binOp op t x y _ => (evV s x).bind fun x => (evV s y).bind fun y => guardB (opOk op y) <| (binop P op t x y).bind fun v => setK s o.dst (.v (.sc v)) c
  | .unOp op _ x => (evV s x).bind fun x => (unop op x).bind fun v => setK s o.dst (.v (.sc v)) c
  | .convert src dst x => (evV s x).bind fun x => match P.underlying src, P.underlying dst, x with
    | some (.int _), some (.int k), .sc (.int _ n) => setK s o.dst (.v (.sc (.int k (k.wrap n)))) c
    | _, _, _ => none
  | .makeFunc (.func f) first captured => (evVs s first.toList).bind fun a => (evVs s captured.toList).bind fun b =>
      setK s o.dst (.v (.sc (.fn f a.length ((a ++ b).map shapeOf) ((a ++ b).flatMap TA.cells)))) c
  | .makeSlice t len cap => (AM.elemOf P t).bind fun e => (zeroCells P e).bind fun z => elT P e fun et => (evV s len).bind fun l => (evV s cap).bind fun m => match l, m with
    | .sc (.int .i64 l), .sc (.int .i64 m) => guardB (Nat.beq z.length (P.cellsOf e) && decide (P.bytesOf e ≤ 8192)) <| guardB (decide (0 ≤ l)) <| guardB (decide (l ≤ m)) <| guardB (decide (m ≤ most)) <|
        mk1 et z fun x => setK { s with h := s.h ++ [.row e et (List.replicate l.toNat x)] } o.dst (.v (.sc (.g s.h.length))) c
    | _, _ => none
  | .slice t x lo hi mx => match P.underlying t with
    | some (.slice e) => guardB (P.info? e).isSome <| (evV s x).bind fun x => asSc x fun x => sliceS s e (P.cellsOf e) x lo hi mx fun v => setK s o.dst (.v (.sc v)) c
    | some (.array n e) => guardB (P.info? e).isSome <| (evV s x).bind fun x => asSc x fun x => match x with
      | .ptr id off => (match zn s.h id with | .box _ _ => sliceS s e (P.cellsOf e) (.sc id off n) lo hi mx fun v => setK s o.dst (.v (.sc v)) c | _ => none)
      | _ => none
    | _ => none
  | .fieldAddr t x i => match P.underlying t with
    | some (.struct fs) => (fs.toList[i]?).bind fun f => guardB (!(Nat.beq (P.cellsOf f.type) 0)) <| (evA s x).bind fun a => addAt a f.offset fun v => setK s o.dst v c
    | _ => none
  | .indexAddr t x i => match P.underlying t with
    | some (.slice e) => guardB (P.info? e).isSome <| (evV s x).bind fun x => asSc x fun x => (evV s i).bind fun i => match x with
      | .d e' t xs => guardB (Nat.beq e e' && Nat.beq t.size (P.cellsOf e)) <| idxI i xs.length fun i => setK s o.dst (.e t xs i 0) c
      | .g id => (match zn s.h id with | .row e' _ xs => guardB (Nat.beq e e') <| idxI i xs.length fun i => setK s o.dst (.p id i 0) c | _ => none)
      | .sl id off n => (match zn s.h id with | .row e' _ _ => guardB (Nat.beq e e') <| idxI i n fun i => setK s o.dst (.p id (off + i) 0) c | _ => none)
      | .sc id off n => (match zn s.h id with | .box _ _ | .crow _ _ => idxI i n fun i => setK s o.dst (.v (.sc (.ptr id (off + i * P.cellsOf e)))) c | _ => none)
      | _ => none
    | some (.array n e) => guardB (P.info? e).isSome <| (evA s x).bind fun a => (evV s i).bind fun i => idxI i n fun i => addAt a (i * P.cellsOf e) fun v => setK s o.dst v c
    | _ => none
  | .extract x i => (evA s x).bind fun v => match v with
    | .t vs => (vs[i]?).bind fun v => setK s o.dst (.v v) c
    | _ => none
  | .call { callee := .builtin b, args, argTypes } => builtinK P A b argTypes.toList args.toList s fun v s => setK s o.dst v c
  | .call { callee := .value f, args, argTypes } => (evV s f).bind fun f => asSc f fun f => match f with
    | .fn g nf sh cs => guardB (!(Nat.beq g YF)) <| (evVs s args.toList).bind fun as => (spread sh cs).bind fun vs =>
      YG P A ev g (List.replicate nf none ++ argTypes.toList.map some) (vs.take nf ++ as ++ vs.drop nf) s.h fun rs h => typed P o.type rs fun v => setK { s with h := h } o.dst v c
    | .yl id => (evVs s args.toList).bind fun as => YG P A ev YF (none :: argTypes.toList.map some) (.sc (.yl id) :: as) s.h fun rs h => typed P o.type rs fun v => setK { s with h := h } o.dst v c
    | _ => none
  | _ => none
def evOps (ops : Array Oper) : List Oper → TS → (TS → Option R) → Option R
  | [], s, c => c s
  | o :: r, s, c =>
    match o.guard with
    | none => evOp P A ev o s fun s => evOps ops r s c
    | some (j, w) => ((ops[j]?).bind (·.dst)).bind fun d => (s.sl.get d).bind fun g => match g with
      | .v (.sc (.bool t)) =>
        cond w (cond t (setK s (some d) (.v (.sc (.bool true))) fun s => evOp P A ev o s fun s => evOps ops r s c) (setK s (some d) (.v (.sc (.bool false))) fun s => setK s o.dst .no fun s => evOps ops r s c))
          (cond t (setK s (some d) (.v (.sc (.bool true))) fun s => setK s o.dst .no fun s => evOps ops r s c) (setK s (some d) (.v (.sc (.bool false))) fun s => evOp P A ev o s fun s => evOps ops r s c))
      | .no => setK s o.dst .no fun s => evOps ops r s c
      | _ => none
def isLoc : TV → Bool
  | .l _ _ | .s _ _ | .w => true
  | _ => false
def isRef (d : Nat) : TV → Bool
  | .l k _ => Nat.beq k d
  | .s k _ => Nat.beq k d
  | .w => true
  | _ => false
def freshAll (A : FAn) (ops : Array Oper) (s : TS) : Bool := ops.toList.all fun o =>
  match o.op with
  | .alloc _ | .box _ _ | .buildSlice _ _ _ => (match o.dst with | some d => !(A.loc.contains d) || s.sl.all fun v => !(isRef d v) | none => true)
  | _ => true
def keepT {α : Type} (f : α → α) (t : Tr α) (l : List Nat) : Tr α := l.foldl (fun u i => match t.get i with | some v => u.set i v | none => u) (t.map f)
def maskR (id : Nat) (s : TS) : TS :=
  match A.a.keepR.find? (fun p => Nat.beq p.1 id) with
  | none => s
  | some (_, a) => { s with sl := keepT (fun _ => .u) s.sl a }
def evRegion (dOk : FAn → Array Oper → Bool) (id : Nat) (ops : Array Oper) (draw : Bool) (s : TS) (c : TS → Option R) : Option R :=
  guardB (!draw || (dOk A.a ops && freshAll A.a ops s)) (evOps P A ev ops ops.toList s fun s => c (maskR A id s))
def maskAt (blk : Nat) (s : TS) : TS :=
  match A.a.keep.find? (fun p => Nat.beq p.1 blk) with
  | none => s
  | some (_, a, b) => { s with sl := keepT (fun _ => .u) s.sl a, lo := keepT (fun _ => none) s.lo b }
def isRetK (key : Nat) : Bool := Nat.beq (key % 4) 3
def QS (key : Nat) (v : TV) : TV := cond (isRetK key) .w (cond (isLoc v) v .u)
def maskL (key : Nat) (s : TS) : TS :=
  match A.live.find? (fun p => Nat.beq p.1 key) with
  | none => s
  | some (_, a, b) => { s with sl := keepT (QS key) s.sl a, lo := keepT (fun _ => none) s.lo b }
def coeC (h : TH) (v : TC) (e : TypeId) (own : Bool) (c : TC → TH → Option R) : Option R :=
  match own, v with
  | true, .nil => elT P e fun t => c (.g h.length) (h ++ [.row e t []])
  | true, .sl id o n => (match zn h id with | .row e' t xs => guardB (Nat.beq e e' && !(Nat.beq t.size 0)) <| guardB (Nat.beq (o + n) xs.length) (c (.g h.length) (h.set id .dead ++ [.row e t (xs.drop o)])) | _ => none)
  | false, .nil => elT P e fun t => c (.d e t []) h
  | false, v => frzC P 3 v h c
  | true, v => c v h
def Wi (l : List TC) (j : Nat) (h : TH) (e : TypeId) (own : Bool) (c : List TC → TH → Option R) : Option R :=
  match l[j]? with
  | some v => coeC P h v e own fun v h => c (l.set j v) h
  | none => none
def coe1 (p : (Nat × Nat × Nat) × TypeId × Bool) (s : TS) (c : TS → Option R) : Option R :=
  match p with
  | ((0, i, j), e, own) => (match s.sl.get i with
    | some (.v (.sc v)) => Wi P [v] j s.h e own fun l h => asC l fun x _ => s.sl.setT i (.v (.sc x)) fun m => c { s with sl := m, h := h }
    | some (.v (.agg l)) => Wi P l j s.h e own fun l h => s.sl.setT i (.v (.agg l)) fun m => c { s with sl := m, h := h }
    | _ => c s)
  | ((1, k, j), e, own) => (match s.lo.get k with
    | some (some l) => Wi P l j s.h e own fun l h => s.lo.setT k (some l) fun m => c { s with lo := m, h := h }
    | _ => c s)
  | ((2, i, j), e, own) => (match zn s.h i with
    | .box _ l => Wi P l j s.h e own fun l h => (match zn h i with | .box b _ => c { s with h := h.set i (.box b l) } | _ => none)
    | .crow _ l => Wi P l j s.h e own fun l h => (match zn h i with | .crow b _ => c { s with h := h.set i (.crow b l) } | _ => none)
    | _ => c s)
  | _ => c s
def Ua : List ((Nat × Nat × Nat) × TypeId × Bool) → TS → (TS → Option R) → Option R
  | [], s, c => c s
  | p :: r, s, c => coe1 P p s fun s => Ua r s c
def YW : List Nat → List Nat → Bool
  | [], _ => true
  | x :: r, y :: q => Nat.beq x y && YW r q
  | _ :: _, [] => false
def order (s : TS) : List Nat := YR s.h 200 ((List.range s.n0).flatMap (fun i => (zn s.h i).refs) ++ s.sl.toL.flatMap TV.refs ++ s.lo.toL.flatMap fun b => match b with | some l => TC.refsL l | none => []) (List.range s.n0)
def gc (s : TS) (c : TS → Option R) : Option R :=
  let ord := order s
  guardB (Uc s.h ord && YW (List.range s.n0) ord && s.sl.all (fun v => v.refs.all (yG ord)) && s.lo.all (fun b => match b with | some l => (TC.refsL l).all (yG ord) | none => true)) <|
  c { sl := s.sl.map (TV.ren (yV ord)), lo := s.lo.map fun b => b.map (TC.renL (yV ord)), h := ord.map fun i => (zn s.h i).ren (yV ord), n0 := s.n0 }
def shp {α β : Type} (t : Tr α) : Tr β → Bool := Tr.rec (motive := fun _ => Tr β → Bool) (fun u => match u with | .nil => true | _ => false) (fun _ u => match u with | .leaf _ => true | _ => false)
  (fun _ _ il ir u => match u with | .node l r => cond (il l) (ir r) false | _ => false) t
def xE (v : TV) (n : Nat) : Tr TV := Tr.ofL (Nat.log2 n + 1) (List.replicate n v)
def ZY (n : Nat) : Tr TV := xE .u n
def isW : TV → Bool
  | .w => true
  | _ => false
def Yp (t : Tr TV) : Bool := !(t.all fun v => !(isW v))
def wO (n : Nat) : Tr (Option (List TC)) := Tr.ofL (Nat.log2 n + 1) (List.replicate n none)
def QV (t : Tr TV) (i : Nat) : Option (Nat × TV) := match t.get i with | some .u => none | some .w => none | some v => some (i, v) | none => none
def QQ (t : Tr (Option (List TC))) (i : Nat) : Option (Nat × List TC) := match t.get i with | some (some v) => some (i, v) | _ => none
def toCS (n : Nat) (s : TS) : CS := { sl := (List.range n).filterMap (QV s.sl), lo := (List.range n).filterMap (QQ s.lo), h := s.h, n0 := s.n0, w := Yp s.sl }
def wk (n : Nat) (c : CS) : TS := { sl := c.sl.foldl (fun t p => t.set p.1 p.2) (xE (cond c.w .w .u) n), lo := c.lo.foldl (fun t p => t.set p.1 (some p.2)) (wO n), h := c.h, n0 := c.n0 }
def wL (key : Nat) (s : TS) (c : CS → Option R) : Option R :=
  Ua P (match A.coe.find? (fun p => Nat.beq p.1 key) with | some p => p.2 | none => []) (maskL A key s) fun s => gc s fun s => guardB (shp s.sl (ZY A.nt) && shp s.lo (wO A.nt)) (c (toCS A.nt s))
def xm : List (Bool × Ex × CS) → (Ex → CS → Option R) → Option R
  | [], _ => none
  | (b, e, s) :: r, c => cond b (c e s) (xm r c)
def loopN (n : Nat) (m : TS → (CS → Option R) → Option R) (body : TS → (Ex → TS → Option R) → Option R) (c : Ex → TS → Option R) : Nat → CS → Option R
  | 0, _ => none
  | k + 1, s => body (wk n s) fun e s' => match e with
    | .normal => m s' fun s => loopN n m body c k s
    | e => c e s'
def kSeq (b : TS → (Ex → TS → Option R) → Option R) (c : Ex → TS → Option R) : Ex → TS → Option R := fun e s =>
  match e with
  | .normal => b s c
  | e => c e s
def kBlock (id : Nat) (c : Ex → TS → Option R) : Ex → TS → Option R := fun e s =>
  match e with
  | .exit i => cond (Nat.beq i id) (c .normal s) (c (.exit i) s)
  | e => c e s
def wz : Code → Option Nat
  | .region id _ _ => some id
  | .seq a b => match wz a with | some i => some i | none => wz b
  | .block _ b => wz b
  | .loop b => wz b
  | _ => none
def Zm (blk : Nat) (s : TS) (c : CS → Option R) : Option R := wL P A (8 * blk) (maskAt A blk s) c
def QW (key : Nat) (s : CS) (c : Ex → TS → Option R) (d : CS → Option R) : Option R :=
  match A.tell key s with
  | some alts => xm alts fun e s => c e (wk A.nt s)
  | none => d s
def YC (body : Code) : Nat := match wz body with | some i => 8 * i + 1 | none => 1
def rfs : Code → List (Nat × List Tmp × Code × Code)
  | .rangeFunc _ ps a b => (YC b, ps.toList, a, b) :: (rfs a ++ rfs b)
  | .seq a b => rfs a ++ rfs b
  | .cond _ a b => rfs a ++ rfs b
  | .block _ b => rfs b
  | .loop b => rfs b
  | _ => []
def ZB (P : Program) (f key : Nat) : Option (List Tmp × Code × Code) := ((P.funcs[f]?).bind fun fn => fn.body.bind fun c => (rfs c).find? fun p => Nat.beq p.1 key).map (·.2)
def plainV : TV → Bool
  | .u | .w | .l _ _ | .s _ _ => false
  | _ => true
def seenAt (key : Nat) : List Nat := match A.live.find? (fun p => Nat.beq p.1 key) with | some (_, a, _) => a | none => List.range A.nt
def Vt (key : Nat) (s : TS) : List (Nat × TV) :=
  (seenAt A key).filterMap fun i => (s.sl.get i).bind fun v => cond (plainV v) (some (i, v)) none
def rangeEnd (s : TS) (c : Ex → TS → Option R) (h : TH) : Option R :=
  match zn h s.h.length with
  | .loop st pe _ _ _ _ => guardB (!(Nat.beq st 1)) (match pe with
    | none => c .normal { s with h := h.set s.h.length .dead }
    | some (.exit i) => c (.exit i) { s with h := h.set s.h.length .dead }
    | some .ret => c .ret { s with h := h.set s.h.length .dead }
    | _ => none)
  | _ => none
def rangeT (g : Operand) (assign body : Code) (s : TS) (c : Ex → TS → Option R) : Option R :=
  (evV s g).bind fun v => asSc v fun v => match v with
  | .fn f nf sh cs => (spread sh cs).bind fun vs => guardB (zB assign && zB body && shp s.sl (ZY A.nt) && !(Nat.beq f YF)) <|
      YG P A ev f [] (vs.take nf ++ [.sc (.yl s.h.length)] ++ vs.drop nf) (s.h ++ [.loop 0 none A.a.self (YC body) A.nt (Vt A (YC body) s)]) fun _ h => rangeEnd s c h
  | _ => none
def evCode (dOk : FAn → Array Oper → Bool) (k : Nat) : Code → Nat → TS → (Ex → TS → Option R) → Option R
  | .skip, _, s, c => c .normal s
  | .label _, _, s, c => c .normal s
  | .region id ops draw, _, s, c => evRegion P A ev dOk id ops draw s fun s => c .normal s
  | .seq a b, blk, s, c => evCode dOk k a blk s (kSeq (fun s c => match wz b with
      | some id => cond (A.cuts.contains id) (wL P A (8 * id + 4) s fun s => QW A (8 * id + 4) s c fun s => evCode dOk k b blk (wk A.nt s) c) (evCode dOk k b blk s c)
      | none => evCode dOk k b blk s c) c)
  | .cond q a b, blk, s, c => (evV s q).bind fun v => asSc v fun v => asB v fun t => cond t (evCode dOk k a blk s c) (evCode dOk k b blk s c)
  | .block id b, _, s, c => evCode dOk k b id s (kBlock id c)
  | .loop b, blk, s, c => Zm P A blk s fun s => QW A (8 * blk) s c fun s => loopN A.nt (fun s c => Zm P A blk s c) (evCode dOk k b blk) c k s
  | .exit id, _, s, c => c (.exit id) s
  | .ret, _, s, c => c .ret s
  | .rangeFunc g _ assign body, _, s, c => rangeT P A ev g assign body s c
  | _, _, _, _ => none
def VL (key : Nat) : Ex → Nat
  | .normal => key + 1
  | .exit _ => key + 2
  | .ret => key + 3
def ZL (dOk : FAn → Array Oper → Bool) (k : Nat) (key : Nat) (c : Code) (blk : Nat) (s : CS) (K : Ex → TS → Option R) : Option R :=
  cond (Nat.beq (key % 8) 0)
    (match c with
    | .loop b => loopN A.nt (fun s c => Zm P A blk s c) (evCode P A ev dOk k b blk) K k s
    | _ => none)
    (evCode P A ev dOk k c blk (wk A.nt s) K)
def zg (A : TAn) : Nat → Code → List (Nat × Code × Nat)
  | blk, .loop b => (8 * blk, .loop b, blk) :: zg A blk b
  | blk, .seq a b => zg A blk a ++ (match wz b with | some id => cond (A.cuts.contains id) [(8 * id + 4, b, blk)] [] | none => []) ++ zg A blk b
  | blk, .cond _ a b => zg A blk a ++ zg A blk b
  | _, .block id b => zg A id b
  | _, .rangeFunc _ _ a b => zg A 0 a ++ zg A 0 b
  | _, _ => []
def resOf (s : TS) : List ResultVar → (List TA → Option R) → Option R
  | [], c => c []
  | .tmp t :: r, c => (s.sl.get t).bind fun v => v.val.bind fun v => resOf s r fun vs => c (v :: vs)
  | .cell a t :: r, c => guardB (P.underlying t).isSome <| (s.sl.get a).bind fun a => cond (yB P t) (loadAt s a (P.cellsOf t) fun l => resOf s r fun vs => c (.agg l :: vs)) (load1 s a fun x => resOf s r fun vs => c (.sc x :: vs))
def finC (own : Bool) (t : Option TypeId) (v : TC) (h : TH) (c : TC → TH → Option R) : Option R :=
  match t with
  | some e => (match ZC P 8 e with | some _ => coeC P h v e own c | none => c v h)
  | none => c v h
def finL (own : Bool) : List (Option TypeId) → List TC → TH → (List TC → TH → Option R) → Option R
  | _, [], h, c => c [] h
  | t, x :: r, h, c => finC P own (t.headD none) x h fun y h => finL own t.tail r h fun ys h => c (y :: ys) h
def finA (own : Bool) (t : Option TypeId) (v : TA) (h : TH) (c : TA → TH → Option R) : Option R :=
  match v with
  | .sc x => finC P own ((t.map fun t => (Vw P 8 t).headD none).getD none) x h fun y h => c (.sc y) h
  | .agg xs => finL P own ((t.map fun t => Vw P 8 t).getD []) xs h fun ys h => c (.agg ys) h
def Vn (own : Bool) : List TypeId → List TA → TH → (List TA → TH → Option R) → Option R
  | _, [], h, c => c [] h
  | t, x :: r, h, c => finA P own t.head? x h fun y h => Vn own t.tail r h fun ys h => c (y :: ys) h
def YP (n0 : Nat) (rs : List TA) (h : TH) (c : List TA → TH → Option R) : Option R :=
  let ord := YR h 200 ((List.range n0).flatMap (fun i => (zn h i).refs) ++ rs.flatMap TA.refs) (List.range n0)
  guardB (Uc h ord && YW (List.range n0) ord && rs.all fun v => v.refs.all (yG ord)) <|
  c (rs.map (TA.ren (yV ord))) (ord.map fun i => (zn h i).ren (yV ord))
def kFin (fn : Func) (c : List TA → TH → Option R) : Ex → TS → Option R := fun e s =>
  match e with
  | .normal | .ret => resOf P s fn.results.toList fun vs => Vn P A.own fn.resultTypes.toList vs s.h fun rs h => YP s.n0 rs h c
  | _ => none
end
def enterSt (fn : Func) (args : List TA) (h : TH) : TS := { sl := Tr.ofL (Nat.log2 fn.ntmps + 1) (args.map TV.v ++ List.replicate (fn.ntmps - args.length) TV.no), lo := Tr.ofL (Nat.log2 fn.ntmps + 1) (List.replicate fn.ntmps none), h := h, n0 := h.length }
def roundSt (nt : Nat) (sl : List (Nat × TV)) (ps : List Tmp) (args : List TA) (h : TH) : TS :=
  { sl := (ps.zip args).foldl (fun t p => t.set p.1 (TV.v p.2)) (sl.foldl (fun t p => t.set p.1 p.2) (ZY nt)), lo := wO nt, h := h, n0 := h.length }
def kRound (id : Nat) : Ex → TS → Option (List TA × TH) := fun e s =>
  match zn s.h id with
  | .loop _ _ g key nt sl => match e with
    | .normal => YP s.n0 [.sc (.bool true)] (s.h.set id (.loop 0 none g key nt sl)) fun rs h => some (rs, h)
    | e => YP s.n0 [.sc (.bool false)] (s.h.set id (.loop 2 (some e) g key nt sl)) fun rs h => some (rs, h)
  | _ => none
def kBegin (id : Nat) (c : TS → Option (List TA × TH)) : Ex → TS → Option (List TA × TH) := fun e s =>
  match e, zn s.h id with
  | .normal, .loop st pe g key nt sl => guardB (Nat.beq st 0) (c { s with h := s.h.set id (.loop 1 pe g key nt sl) })
  | _, _ => none
def evY (P : Program) (An : FuncId → TAn) (ev : TEv) (dOk : FAn → Array Oper → Bool) (k : Nat) (args : List TA) (h : TH) : Option (List TA × TH) :=
  match args with
  | .sc (.yl id) :: rest => match zn h id with
    | .loop _ _ g key nt sl => (ZB P g key).bind fun rf => guardB (Nat.beq rest.length rf.1.length && zB rf.2.1 && zB rf.2.2) <|
        evCode P (An g) ev dOk k rf.2.1 0 (roundSt nt sl rf.1 rest h) (kBegin id fun s => evCode P (An g) ev dOk k rf.2.2 0 s (kRound id))
    | _ => none
  | _ => none
def evF (P : Program) (An : FuncId → TAn) (dOk : FAn → Array Oper → Bool) : Nat → TEv
  | 0, _, _, _ => none
  | k + 1, f, args, h => cond (Nat.beq f YF) (evY P An (evF P An dOk k) dOk k args h) <|
      (P.funcs[f]?).bind fun fn => fn.body.bind fun code => guardB (Nat.beq args.length fn.params.size || decide (args.length ≤ fn.ntmps)) <|
      evCode P (An f) (evF P An dOk k) dOk k code 0 (enterSt fn args h) (kFin P (An f) fn fun rs h => some (rs, h))
end
def Seg {α : Type} (R : α → List Sc → Prop) : List α → List Sc → Prop
  | [], cs => cs = []
  | x :: xs, cs => ∃ a b, cs = a ++ b ∧ R x a ∧ Seg R xs b
def rowE (e : TypeId) : AO → Prop
  | .row true e' _ => e = e'
  | .row false _ _ | .box _ _ => True
  | _ => False
def SlR (P : Program) (h : AH) (Z : Nat → Prop) (e : TypeId) (z : Nat) {α : Type} (R : α → List Sc → Prop) (xs : List α) (s : Sc) : Prop :=
  (xs = [] ∧ ∃ b, s = .nils b) ∨ ∃ id off o cs, s = .sl id off xs.length ∧ Z id ∧ h[id]? = some o ∧ rowE e o ∧ yg o = some cs ∧ z = P.cellsOf e ∧ off + xs.length * z ≤ cs.length ∧ Seg R xs ((cs.drop off).take (xs.length * z))
def DR (P : Program) (h : AH) (Z : Nat → Prop) : (t : Ty) → t.T → List Sc → Prop
  | .int k, n, cs => cs = [.int k n]
  | .bool, b, cs => cs = [.bool b]
  | .str, s, cs => cs = [.str s]
  | .list e t, xs, cs => ∃ s, cs = [s] ∧ SlR P h Z e t.size (DR P h Z t) xs s
  | .pair a b, p, cs => ∃ x y, cs = x ++ y ∧ DR P h Z a p.1 x ∧ DR P h Z b p.2 y
  | .unit, _, cs => cs = []
structure JE where
  v : Bool
  id : Nat
  off : Nat
  n : Nat
  z : Nat
mutual
def CR (P : Program) (h : AH) (Z : Nat → Prop) (J : List JE) : TC → Sc → Prop
  | .bool b, s => s = .bool b
  | .int k n, s => s = .int k n
  | .str b, s => s = .str b
  | .d e t xs, s => SlR P h Z e t.size (DR P h Z t) xs s
  | .nil, s => ∃ b, s = .nils b
  | .g id, s => ∃ je, J[id]? = some je ∧ ((je.v = true ∧ ∃ b, s = .nils b) ∨ (je.v = false ∧ s = .sl je.id je.off je.n))
  | .sl id o n, s => ∃ je, J[id]? = some je ∧ ((je.v = true ∧ n = 0 ∧ ∃ b, s = .nils b) ∨ (je.v = false ∧ s = .sl je.id (je.off + o * je.z) n))
  | .sc id o n, s => ∃ je, J[id]? = some je ∧ je.v = false ∧ s = .sl je.id o n
  | .ptr id o, s => ∃ je, J[id]? = some je ∧ je.v = false ∧ s = .ptr je.id o
  | .fn f nf sh cs, s => ∃ ss, s = .fn (.func f) nf sh ss ∧ CRs P h Z J cs ss
  | .yl id, s => ∃ je, J[id]? = some je ∧ je.v = false ∧ s = .fn (.yield je.id) 0 [] []
  | .nilp, s => s = .nilp
  | .nilf, s => s = .nilf
  | .nili, s => s = .nili
def CRs (P : Program) (h : AH) (Z : Nat → Prop) (J : List JE) : List TC → List Sc → Prop
  | [], [] => True
  | x :: xs, v :: vs => CR P h Z J x v ∧ CRs P h Z J xs vs
  | [], _ :: _ => False
  | _ :: _, [] => False
end
def AR (P : Program) (h : AH) (Z : Nat → Prop) (J : List JE) : TA → AV → Prop
  | .sc c, v => ∃ s, v = .sc s ∧ CR P h Z J c s
  | .agg cs, v => ∃ ss, v = .agg ss ∧ CRs P h Z J cs ss
def ARs (P : Program) (h : AH) (Z : Nat → Prop) (J : List JE) : List TA → List AV → Prop
  | [], [] => True
  | x :: xs, v :: vs => AR P h Z J x v ∧ ARs P h Z J xs vs
  | [], _ :: _ => False
  | _ :: _, [] => False
def YO : AM.SV → Bool
  | .l _ _ | .s _ _ => true
  | _ => false
def SR (P : Program) (h : AH) (Z : Nat → Prop) (J : List JE) : TV → AM.SV → Prop
  | .u, v => YO v = false
  | .w, _ => True
  | .no, v => v = .no
  | .v a, v => ∃ x, v = .v x ∧ AR P h Z J a x
  | .t vs, v => ∃ xs, v = .t xs ∧ ARs P h Z J vs xs
  | .l k o, v => v = .l k o
  | .s k n, v => v = .s k n
  | .e t xs i off, v => ∃ id o ob cs, v = .v (.sc (.ptr id (o + i * t.size + off))) ∧ Z id ∧ h[id]? = some ob ∧ yg ob = some cs ∧ o + xs.length * t.size ≤ cs.length ∧ i < xs.length ∧ Seg (DR P h Z t) xs ((cs.drop o).take (xs.length * t.size))
  | .p id i off, v => ∃ je, J[id]? = some je ∧ je.v = false ∧ v = .v (.sc (.ptr je.id (je.off + i * je.z + off)))
def TO.live : TO → Bool
  | .dead => false
  | _ => true
def PeR : Option Ex → Option Code → Prop
  | none, c => c = none
  | some (.exit i), c => c = some (.exit i)
  | some .ret, c => c = some .ret
  | some .normal, _ => False
def OR (P : Program) (h : AH) (Z : Nat → Prop) (J : List JE) (je : JE) : TO → Prop
  | .row e t xs => je.z = t.size ∧ je.n = xs.length ∧ t.size = P.cellsOf e ∧ (P.info? e).isSome = true ∧ ((je.v = true ∧ xs = []) ∨ (je.v = false ∧ ∃ cs, h[je.id]? = some (.row true e cs) ∧ cs.length = je.off + xs.length * t.size ∧ Seg (DR P h Z t) xs (cs.drop je.off)))
  | .crow e cells => je.v = false ∧ ∃ cs, h[je.id]? = some (.row true e cs) ∧ CRs P h Z J cells cs
  | .box e cells => je.v = false ∧ ∃ cs, h[je.id]? = some (.box e cs) ∧ CRs P h Z J cells cs
  | .dead => True
  | .loop st pe f key nt sl => je.v = false ∧ ∃ al, h[je.id]? = some (.loop al) ∧ al.st = st ∧ PeR pe al.pend ∧ al.fn = f ∧ ZB P f key = some (al.params, al.assign, al.body) ∧
      (∀ i, (al.sl.get i).isSome = ((ZY nt).get i).isSome) ∧ (∀ i x, al.sl.get i = some x → YO x = false) ∧ ∀ p ∈ sl, ∃ x, al.sl.get p.1 = some x ∧ SR P h Z J p.2 x
structure HR (P : Program) (J : List JE) (Z : Nat → Prop) (H : TH) (h : AH) : Prop where
  len : J.length = H.length
  obj : ∀ (i : Nat) o je, H[i]? = some o → J[i]? = some je → OR P h Z J je o
  uniq : ∀ (i j : Nat) o o' je je', H[i]? = some o → H[j]? = some o' → o.live = true → o'.live = true → J[i]? = some je → J[j]? = some je' → je.v = false → je'.v = false → je.id = je'.id → i = j
  sep : ∀ (i : Nat) o je, H[i]? = some o → o.live = true → J[i]? = some je → je.v = false → ¬ Z je.id
  zlt : ∀ id, Z id → id < h.length
def OwnJ (J : List JE) (H : TH) (id : Nat) : Prop := ∃ (i : Nat) (o : TO) (je : JE), H[i]? = some o ∧ o.live = true ∧ J[i]? = some je ∧ je.v = false ∧ je.id = id
structure Kp (J0 : List JE) (Z0 : Nat → Prop) (H0 : TH) (h0 : AH) (J : List JE) (Z : Nat → Prop) (H : TH) (h : AH) : Prop where
  len : h0.length ≤ h.length
  pre : J0 <+: J
  same : ∀ id, id < h0.length → ¬ OwnJ J0 H0 id → h[id]? = h0[id]?
  own : ∀ id, OwnJ J H id → OwnJ J0 H0 id ∨ h0.length ≤ id
  zin : ∀ id, Z0 id → Z id
  zout : ∀ id, Z id → Z0 id ∨ OwnJ J0 H0 id ∨ h0.length ≤ id
structure StR (P : Program) (J0 : List JE) (Z0 : Nat → Prop) (H0 : TH) (h0 : AH) (J : List JE) (Z : Nat → Prop) (s : TS) (a : AM.St) : Prop where
  tm : ∀ (i : Nat) v, s.sl.get i = some v → ∃ x, a.sl.get i = some x ∧ SR P a.h Z J v x
  mt : ∀ (i : Nat) x, a.sl.get i = some x → ∃ v, s.sl.get i = some v
  lo : ∀ (k : Nat) cs, s.lo.get k = some (some cs) → ∃ cs', a.lo.get k = some (some cs') ∧ CRs P a.h Z J cs cs'
  lt : ∀ (k : Nat) x, s.lo.get k = some x → ∃ y, a.lo.get k = some y
  hp : HR P J Z s.h a.h
  kp : Kp J0 Z0 H0 h0 J Z s.h a.h
  n0 : s.n0 = H0.length
  j0 : J0.length = H0.length
structure Ext (h : AH) (Z : Nat → Prop) (h' : AH) (Z' : Nat → Prop) : Prop where
  z : ∀ id, Z id → Z' id
  same : ∀ id, Z id → h'[id]? = h[id]?
theorem Ext.refl (h : AH) (Z : Nat → Prop) : Ext h Z h Z := ⟨fun _ h => h, fun _ _ => rfl⟩
theorem Ext.trans {h h1 h2 : AH} {Z Z1 Z2 : Nat → Prop} (a : Ext h Z h1 Z1) (b : Ext h1 Z1 h2 Z2) : Ext h Z h2 Z2 :=
  ⟨fun id h => b.z id (a.z id h), fun id h => (b.same id (a.z id h)).trans (a.same id h)⟩
variable {P : Program} {h h' : AH} {Z Z' : Nat → Prop} {J J' : List JE}
theorem Seg.mono {α : Type} {R R' : α → List Sc → Prop} (hr : ∀ x cs, R x cs → R' x cs) : ∀ {xs : List α} {cs : List Sc}, Seg R xs cs → Seg R' xs cs
  | [], _, h => h
  | _ :: _, _, ⟨a, b, h1, h2, h3⟩ => ⟨a, b, h1, hr _ _ h2, Seg.mono hr h3⟩
theorem SlR.mono (x : Ext h Z h' Z') {e : TypeId} {z : Nat} {α : Type} {R R' : α → List Sc → Prop} (hr : ∀ x cs, R x cs → R' x cs) {xs : List α} {s : Sc} (r : SlR P h Z e z R xs s) : SlR P h' Z' e z R' xs s := by
  rcases r with r | ⟨id, off, o, cs, h1, h2, h3, h4, h5, h6, h7, h8⟩
  · exact .inl r
  · exact .inr ⟨id, off, o, cs, h1, x.z _ h2, (x.same _ h2).trans h3, h4, h5, h6, h7, h8.mono hr⟩
theorem DR.mono (x : Ext h Z h' Z') : ∀ (t : Ty) {d : t.T} {cs : List Sc}, DR P h Z t d cs → DR P h' Z' t d cs
  | .int _, _, _, r => r
  | .bool, _, _, r => r
  | .str, _, _, r => r
  | .list e t, _, _, ⟨s, h1, h2⟩ => ⟨s, h1, h2.mono x fun _ _ => DR.mono x t⟩
  | .pair a b, _, _, ⟨p, q, h1, h2, h3⟩ => ⟨p, q, h1, DR.mono x a h2, DR.mono x b h3⟩
  | .unit, _, _, r => r
theorem zN {α : Type} {I I' : List α} (h : I <+: I') {i : Nat} {x : α} (hx : I[i]? = some x) : I'[i]? = some x := by
  obtain ⟨t, rfl⟩ := h
  rw [List.getElem?_append_left (List.getElem?_eq_some_iff.1 hx).1]; exact hx
mutual
theorem CR.mono (x : Ext h Z h' Z') (p : J <+: J') : ∀ (c : TC) (s : Sc), CR P h Z J c s → CR P h' Z' J' c s
  | .bool _, _, r => r
  | .int _ _, _, r => r
  | .str _, _, r => r
  | .d e t xs, _, r => SlR.mono x (fun _ _ => DR.mono x t) r
  | .nil, _, r => r
  | .g _, _, ⟨je, h1, h2⟩ => ⟨je, zN p h1, h2⟩
  | .sl _ _ _, _, ⟨je, h1, h2⟩ => ⟨je, zN p h1, h2⟩
  | .sc _ _ _, _, ⟨je, h1, h2⟩ => ⟨je, zN p h1, h2⟩
  | .ptr _ _, _, ⟨je, h1, h2⟩ => ⟨je, zN p h1, h2⟩
  | .fn _ _ _ cs, _, ⟨ss, h1, h2⟩ => ⟨ss, h1, CRs.mono x p cs ss h2⟩
  | .yl _, _, ⟨je, h1, h2⟩ => ⟨je, zN p h1, h2⟩
  | .nilp, _, r => r
  | .nilf, _, r => r
  | .nili, _, r => r
theorem CRs.mono (x : Ext h Z h' Z') (p : J <+: J') : ∀ (c : List TC) (s : List Sc), CRs P h Z J c s → CRs P h' Z' J' c s
  | [], [], _ => trivial
  | c :: cs, s :: ss, ⟨h1, h2⟩ => ⟨CR.mono x p c s h1, CRs.mono x p cs ss h2⟩
  | [], _ :: _, r => r
  | _ :: _, [], r => r
end
theorem AR.mono (x : Ext h Z h' Z') (p : J <+: J') {c : TA} {s : AV} (r : AR P h Z J c s) : AR P h' Z' J' c s := by
  cases c with
  | sc c => obtain ⟨s', h1, h2⟩ := r; exact ⟨s', h1, CR.mono x p _ _ h2⟩
  | agg cs => obtain ⟨s', h1, h2⟩ := r; exact ⟨s', h1, CRs.mono x p _ _ h2⟩
theorem ARs.mono (x : Ext h Z h' Z') (p : J <+: J') : ∀ {c : List TA} {s : List AV}, ARs P h Z J c s → ARs P h' Z' J' c s
  | [], [], _ => trivial
  | _ :: _, _ :: _, ⟨h1, h2⟩ => ⟨h1.mono x p, ARs.mono x p h2⟩
  | [], _ :: _, r => r.elim
  | _ :: _, [], r => r.elim
theorem SR.mono (x : Ext h Z h' Z') (p : J <+: J') {c : TV} {s : AM.SV} (r : SR P h Z J c s) : SR P h' Z' J' c s := by
  cases c with
  | u => exact r
  | w => exact r
  | no => exact r
  | v a => obtain ⟨s', h1, h2⟩ := r; exact ⟨s', h1, h2.mono x p⟩
  | t vs => obtain ⟨s', h1, h2⟩ := r; exact ⟨s', h1, h2.mono x p⟩
  | l k o => exact r
  | s k n => exact r
  | e t xs i off => obtain ⟨id, o, ob, cs, h1, h2, h3, h4, h5, h6, h7⟩ := r; exact ⟨id, o, ob, cs, h1, x.z _ h2, (x.same _ h2).trans h3, h4, h5, h6, h7.mono fun _ _ => DR.mono x t⟩
  | p id i off => obtain ⟨je, h1, h2⟩ := r; exact ⟨je, zN p h1, h2⟩
theorem CRs.length : ∀ {c : List TC} {s : List Sc}, CRs P h Z J c s → c.length = s.length
  | [], [], _ => rfl
  | _ :: _, _ :: _, ⟨_, h2⟩ => by simp [CRs.length h2]
  | [], _ :: _, r => by simp [CRs] at r
  | _ :: _, [], r => by simp [CRs] at r
theorem ARs.length : ∀ {c : List TA} {s : List AV}, ARs P h Z J c s → c.length = s.length
  | [], [], _ => rfl
  | _ :: _, _ :: _, ⟨_, h2⟩ => by simp [ARs.length h2]
  | [], _ :: _, r => r.elim
  | _ :: _, [], r => r.elim
theorem CRs.append : ∀ {c d : List TC} {s t : List Sc}, CRs P h Z J c s → CRs P h Z J d t → CRs P h Z J (c ++ d) (s ++ t)
  | [], _, [], _, _, k => k
  | _ :: _, _, _ :: _, _, h, k => by simp only [CRs, List.cons_append] at h ⊢; exact ⟨h.1, CRs.append h.2 k⟩
  | [], _, _ :: _, _, h, _ => by simp [CRs] at h
  | _ :: _, _, [], _, h, _ => by simp [CRs] at h
theorem CRs.take (n : Nat) : ∀ {c : List TC} {s : List Sc}, CRs P h Z J c s → CRs P h Z J (c.take n) (s.take n) := by
  induction n with
  | zero => intro c s _; simp [CRs]
  | succ n ih => intro c s h; cases c <;> cases s <;> simp_all [CRs]
theorem CRs.drop (n : Nat) : ∀ {c : List TC} {s : List Sc}, CRs P h Z J c s → CRs P h Z J (c.drop n) (s.drop n) := by
  induction n with
  | zero => intro c s h; simpa using h
  | succ n ih => intro c s h; cases c <;> cases s <;> simp_all [CRs]
theorem CRs.get : ∀ {c : List TC} {s : List Sc}, CRs P h Z J c s → ∀ {i : Nat} {x : TC}, c[i]? = some x → ∃ y, s[i]? = some y ∧ CR P h Z J x y
  | [], [], _, _, _, h => by simp at h
  | a :: _, b :: _, ⟨h1, h2⟩, i, x, h => by
    cases i with
    | zero => simp at h; subst h; exact ⟨b, rfl, h1⟩
    | succ i => simpa using CRs.get h2 (by simpa using h)
  | [], _ :: _, r, _, _, _ => by simp [CRs] at r
  | _ :: _, [], r, _, _, _ => by simp [CRs] at r
theorem CRs.splice {c v : List TC} {cs vs : List Sc} (off : Nat) (h1 : CRs P h Z J c cs) (k : CRs P h Z J v vs) : CRs P h Z J (AM.splice c off v) (AM.splice cs off vs) := by
  unfold AM.splice
  rw [k.length]
  exact ((h1.take off).append k).append (h1.drop _)
theorem CRs.set {c : List TC} {s : List Sc} (r : CRs P h Z J c s) {j : Nat} {x : TC} {y : Sc} (hx : CR P h Z J x y) (hy : s[j]? = some y) : CRs P h Z J (c.set j x) s := by
  induction c generalizing s j with
  | nil => simpa using r
  | cons a c ih =>
    cases s with
    | nil => simp [CRs] at r
    | cons b s =>
      simp only [CRs] at r
      cases j with
      | zero => simp at hy; subst hy; simp only [List.set_cons_zero, CRs]; exact ⟨hx, r.2⟩
      | succ j => simp only [List.set_cons_succ, CRs]; exact ⟨r.1, ih r.2 (by simpa using hy)⟩
theorem AR.cells {c : TA} {s : AV} (r : AR P h Z J c s) : CRs P h Z J c.cells s.cells := by
  cases c with
  | sc c => obtain ⟨s', rfl, h2⟩ := r; simp only [TA.cells, AV.cells, CRs]; exact ⟨h2, trivial⟩
  | agg cs => obtain ⟨s', rfl, h2⟩ := r; exact h2
theorem AR.shape {c : TA} {s : AV} (r : AR P h Z J c s) : TM.shapeOf c = AM.shapeOf s := by
  cases c with
  | sc c => obtain ⟨s', rfl, h2⟩ := r; rfl
  | agg cs => obtain ⟨s', rfl, h2⟩ := r; simp only [TM.shapeOf, AM.shapeOf, h2.length]
theorem DR.length : ∀ (t : Ty) {d : t.T} {cs : List Sc}, DR P h Z t d cs → cs.length = t.size
  | .int _, _, _, r => by simp only [DR] at r; subst r; rfl
  | .bool, _, _, r => by simp only [DR] at r; subst r; rfl
  | .str, _, _, r => by simp only [DR] at r; subst r; rfl
  | .list e t, _, _, ⟨s, h1, _⟩ => by subst h1; rfl
  | .pair a b, _, _, ⟨p, q, h1, h2, h3⟩ => by subst h1; simp [Ty.size, DR.length a h2, DR.length b h3]
  | .unit, _, _, r => by simp only [DR] at r; subst r; rfl
theorem DR.cells : ∀ (t : Ty) {d : t.T} {cs : List Sc}, DR P h Z t d cs → CRs P h Z J (t.cells d) cs
  | .int _, _, _, r => by simp only [DR] at r; subst r; simp [Ty.cells, CRs, CR]
  | .bool, _, _, r => by simp only [DR] at r; subst r; simp [Ty.cells, CRs, CR]
  | .str, _, _, r => by simp only [DR] at r; subst r; simp [Ty.cells, CRs, CR]
  | .list e t, _, _, ⟨s, h1, h2⟩ => by subst h1; simp only [Ty.cells, CRs, CR]; exact ⟨h2, trivial⟩
  | .pair a b, _, _, ⟨p, q, h1, h2, h3⟩ => by subst h1; exact (DR.cells a h2).append (DR.cells b h3)
  | .unit, _, _, r => by simp only [DR] at r; subst r; simp [Ty.cells, CRs]
theorem Seg.length {α : Type} {R : α → List Sc → Prop} {z : Nat} (hz : ∀ x cs, R x cs → cs.length = z) : ∀ {xs : List α} {cs : List Sc}, Seg R xs cs → cs.length = xs.length * z
  | [], _, h => by simp only [Seg] at h; subst h; simp
  | _ :: xs, _, ⟨a, b, h1, h2, h3⟩ => by subst h1; simp [hz _ _ h2, Seg.length hz h3, Nat.succ_mul, Nat.add_comm]
theorem Seg.append {α : Type} {R : α → List Sc → Prop} : ∀ {xs ys : List α} {c d : List Sc}, Seg R xs c → Seg R ys d → Seg R (xs ++ ys) (c ++ d)
  | [], _, _, _, h, k => by simp only [Seg] at h; subst h; exact k
  | x :: xs, ys, _, d, ⟨a, b, h1, h2, h3⟩, k => ⟨a, b ++ d, by rw [h1, List.append_assoc], h2, Seg.append h3 k⟩
theorem Seg.split {α : Type} {R : α → List Sc → Prop} {z : Nat} (hz : ∀ x cs, R x cs → cs.length = z) : ∀ (n : Nat) {xs : List α} {c : List Sc}, Seg R xs c → Seg R (xs.take n) (c.take (n * z)) ∧ Seg R (xs.drop n) (c.drop (n * z))
  | 0, xs, c, h => by simpa [Seg] using h
  | n + 1, [], c, h => by simp only [Seg] at h; subst h; simp [Seg]
  | n + 1, x :: xs, c, ⟨a, b, h1, h2, h3⟩ => by
    obtain ⟨k1, k2⟩ := Seg.split hz n h3
    have ha := hz _ _ h2
    subst h1
    have e : (n + 1) * z = a.length + n * z := by rw [ha, Nat.succ_mul, Nat.add_comm]
    rw [e]
    refine ⟨⟨a, b.take (n * z), ?_, h2, k1⟩, ?_⟩
    · rw [List.take_append, List.take_of_length_le (by omega)]; simp
    · rw [List.drop_append, List.drop_of_length_le (l := a) (by omega)]; simpa using k2
theorem Seg.get {α : Type} {R : α → List Sc → Prop} {z : Nat} (hz : ∀ x cs, R x cs → cs.length = z) {xs : List α} {c : List Sc} (r : Seg R xs c) {i : Nat} (hi : i < xs.length) : R xs[i] ((c.drop (i * z)).take z) := by
  have h1 := (Seg.split hz i r).2
  rw [List.drop_eq_getElem_cons hi] at h1
  obtain ⟨a, b, e, h2, _⟩ := h1
  rw [e]
  have := hz _ _ h2
  rw [List.take_left' this]; exact h2
theorem Seg.set {α : Type} {R : α → List Sc → Prop} {z : Nat} (hz : ∀ x cs, R x cs → cs.length = z) {xs : List α} {c : List Sc} (r : Seg R xs c) {i : Nat} (hi : i < xs.length) {x : α} {v : List Sc} (hx : R x v) : Seg R (xs.set i x) (AM.splice c (i * z) v) := by
  obtain ⟨k1, k2⟩ := Seg.split hz i r
  obtain ⟨_, k3⟩ := Seg.split hz (i + 1) r
  rw [List.set_eq_take_append_cons_drop, if_pos hi]
  unfold AM.splice
  have e : (i + 1) * z = i * z + v.length := by rw [hz _ _ hx, Nat.succ_mul]
  rw [e] at k3
  rw [List.append_assoc]
  exact k1.append ⟨v, _, rfl, hx, k3⟩
end Go.TM
namespace Go.AM
open Go
section
variable {R S : Type} (P : Program) (A : FAn) (ev : Ev) (dOk : FAn → Array Oper → Bool) (g : R → Option S)
theorem evOps_bind (ops : Array Oper) : ∀ (l : List Oper) (s : St) (c : St → Option R), (evOps P A ev ops l s c).bind g = evOps P A ev ops l s fun s => (c s).bind g
  | [], s, c => rfl
  | o :: r, s, c => by
    simp only [evOps, setK_eq]
    split
    · rw [evOp_bind]; simp only [evOps_bind ops r]
    · rename_i j w _
      simp only [Option.bind_assoc]
      congr 1; funext o1; congr 1; funext d; congr 1; funext x
      cases x with
      | v y => cases y with
        | sc z => cases z with
          | bool t => cases w <;> cases t <;> simp [evOp_bind, evOps_bind ops r]
          | _ => rfl
        | agg _ => rfl
      | no => simp [evOps_bind ops r]
      | _ => rfl
theorem QH (hrj : A.rj = []) (id : Nat) (ops : Array Oper) (draw : Bool) (s : St) (c : St → Option R) : (evRegion P A ev dOk id ops draw s c).bind g = evRegion P A ev dOk id ops draw s fun s => (c s).bind g := by
  simp only [evRegion, hrj, List.find?_nil, zm, evOps_bind]
theorem UM (m : St → St) (body : St → (Ex → St → Option R) → Option R) (body' : St → (Ex → St → Option S) → Option S) (hb : ∀ s c, (body s c).bind g = body' s fun e s => (c e s).bind g) (c : Ex → St → Option R) : ∀ (n : Nat) (s : St), (loopN m body c n s).bind g = loopN m body' (fun e s => (c e s).bind g) n s
  | 0, _ => rfl
  | n + 1, s => by
    simp only [loopN, hb]
    congr; funext e s'
    cases e <;> simp [UM m body body' hb c n]
theorem kSeq_bind (b : St → (Ex → St → Option R) → Option R) (b' : St → (Ex → St → Option S) → Option S) (hb : ∀ s c, (b s c).bind g = b' s fun e s => (c e s).bind g) (c : Ex → St → Option R) : (fun e s => (kSeq b c e s).bind g) = kSeq b' (fun e s => (c e s).bind g) := by
  funext e s; cases e <;> simp [kSeq, hb]
theorem kBlock_bind (id : Nat) (c : Ex → St → Option R) : (fun e s => (kBlock id c e s).bind g) = kBlock id (fun e s => (c e s).bind g) := by
  funext e s; cases e with
  | exit i => simp only [kBlock]; cases Nat.beq i id <;> rfl
  | _ => rfl
theorem QN (s : St) (c : Ex → St → Option R) (h : AH) : (rangeEnd s c h).bind g = rangeEnd s (fun e s => (c e s).bind g) h := by
  unfold rangeEnd
  split
  · rw [zm]
    split <;> rfl
  · rfl
theorem rangeK_bind (q : Operand) (ps : Array Tmp) (a b : Code) (s : St) (c : Ex → St → Option R) : (rangeK A ev q ps a b s c).bind g = rangeK A ev q ps a b s fun e s => (c e s).bind g := by
  unfold rangeK
  simp only [Option.bind_assoc, xh, VR, zm, wN, QN]
theorem evCode_bind (hrj : A.rj = []) (k : Nat) : ∀ (c : Code) (blk : Nat) (s : St) (K : Ex → St → Option R), (evCode P A ev dOk k c blk s K).bind g = evCode P A ev dOk k c blk s fun e s => (K e s).bind g
  | .skip, _, s, K => rfl
  | .label _, _, s, K => rfl
  | .region id ops draw, _, s, K => by simp only [evCode, QH _ _ _ _ _ hrj]
  | .seq a b, blk, s, K => by simp only [evCode]; rw [evCode_bind hrj k a, kSeq_bind g _ (evCode P A ev dOk k b blk) (fun s c => evCode_bind hrj k b blk s c)]
  | .cond q a b, blk, s, K => by
    simp only [evCode, Option.bind_assoc]
    congr; funext v
    cases v with
    | agg _ => rfl
    | sc v => cases v with
      | bool t => cases t <;> simp [asSc, asB, evCode_bind hrj k a, evCode_bind hrj k b]
      | _ => rfl
  | .block id b, _, s, K => by simp only [evCode]; rw [evCode_bind hrj k b, kBlock_bind]
  | .loop b, blk, s, K => by simp only [evCode]; rw [UM g _ _ (evCode P A ev dOk k b blk) fun s c => evCode_bind hrj k b blk s c]
  | .exit id, _, s, K => rfl
  | .ret, _, s, K => rfl
  | .rangeFunc q ps a b, _, s, K => by simp only [evCode]; exact rangeK_bind A ev g q ps a b s K
  | .scope _, _, _, _ => rfl
  | .goto _, _, _, _ => rfl
  | .refuse _, _, _, _ => rfl
end
def Tv (ev ev' : Ev) : Prop := ∀ f as h r, ev f as h = some r → ev' f as h = some r
section
variable {P : Program} {A : FAn} {ev ev' : Ev} {dOk : FAn → Array Oper → Bool}
theorem callK_le (hle : Tv ev ev') {R : Type} {f : Fn} {as : List AV} {h : AH} {c : List AV → AH → Option R} {x : R} (hx : callK A ev f as h c = some x) : callK A ev' f as h c = some x := by
  unfold callK at hx ⊢
  split at hx
  · rename_i n
    have key : ∀ (hh : AH) (d : List AV × AH → Option R), (ev (.func n) as hh).bind d = some x → (ev' (.func n) as hh).bind d = some x := by
      intro hh d hd
      obtain ⟨p, h1, h2⟩ := oB hd
      rw [hle _ _ _ _ h1]; exact h2
    cases hc : (A.iso.contains n && as.all AV.bare) with
    | true =>
      rw [hc] at hx
      simp only [cond_true] at hx ⊢
      split at hx
      · exact hx
      · exact key _ _ hx
    | false =>
      rw [hc] at hx
      simp only [cond_false] at hx ⊢
      exact key _ _ hx
  · obtain ⟨p, h1, h2⟩ := oB hx
    rw [hle _ _ _ _ h1]; exact h2
  · cases hx
theorem rangeEnd_le {R : Type} {s : St} {c c' : Ex → St → Option R} {x : R} (hc : ∀ e s y, c e s = some y → c' e s = some y) {h : AH} (hx : rangeEnd s c h = some x) : rangeEnd s c' h = some x := by
  unfold rangeEnd at hx ⊢
  split at hx
  · cases hb : !(Nat.beq _ 1) with
    | false => rw [hb] at hx; cases hx
    | true =>
      rw [hb] at hx
      simp only [guardB, cond_true] at hx ⊢
      split at hx
      · exact hc _ _ _ hx
      · exact hc _ _ _ hx
      · exact hc _ _ _ hx
      · cases hx
  · cases hx
theorem rangeK_le (hle : Tv ev ev') {R : Type} {g : Operand} {ps : Array Tmp} {a b : Code} {s : St} {c c' : Ex → St → Option R} {x : R} (hc : ∀ e s y, c e s = some y → c' e s = some y) (hx : rangeK A ev g ps a b s c = some x) : rangeK A ev' g ps a b s c' = some x := by
  unfold rangeK at hx ⊢
  obtain ⟨v, h1, hx⟩ := oB hx
  rw [h1, Option.bind_some]
  cases v with
  | agg _ => cases hx
  | sc v => cases v with
    | fn f nf sh cs =>
      simp only [asSc, asF] at hx ⊢
      obtain ⟨vs, h2, hx⟩ := oB hx
      rw [h2, Option.bind_some]
      cases hb : (zB a && zB b && fnName f) with
      | false => rw [hb] at hx; cases hx
      | true =>
        rw [hb] at hx
        simp only [guardB, cond_true] at hx ⊢
        have h3 := callK_le hle hx
        have e1 := wN (fun p : AH => rangeEnd s c p) A ev' f (vs.take nf ++ [.sc (.fn (.yield s.h.length) 0 [] [])] ++ vs.drop nf) (s.h ++ [.loop ⟨0, none, A.self, s.sl.map noLoc, ps.toList, a, b⟩]) fun _ h => some h
        have e2 := wN (fun p : AH => rangeEnd s c' p) A ev' f (vs.take nf ++ [.sc (.fn (.yield s.h.length) 0 [] [])] ++ vs.drop nf) (s.h ++ [.loop ⟨0, none, A.self, s.sl.map noLoc, ps.toList, a, b⟩]) fun _ h => some h
        simp only [Option.bind_some] at e1 e2
        rw [← e1] at h3
        rw [← e2]
        obtain ⟨p, h4, h5⟩ := oB h3
        rw [h4, Option.bind_some]
        exact rangeEnd_le hc h5
    | _ => cases hx
theorem evOp_le (hle : Tv ev ev') {R : Type} {o : Oper} {s : St} {c : St → Option R} {x : R} (hx : evOp P A ev o s c = some x) : evOp P A ev' o s c = some x := by
  unfold evOp at hx ⊢
  split at hx
  case h_21 =>
    obtain ⟨f, h1, hx⟩ := oB hx
    rw [h1]
    simp only [Option.bind_some]
    cases f with
    | agg _ => cases hx
    | sc f =>
      cases f with
      | fn g nf sh cs =>
        simp only [asSc, asF] at hx ⊢
        obtain ⟨as, h2, hx⟩ := oB hx
        obtain ⟨vs, h3, hx⟩ := oB hx
        rw [h2, h3]
        exact callK_le hle hx
      | _ => cases hx
  all_goals exact hx
theorem evOps_le (hle : Tv ev ev') {R : Type} {ops : Array Oper} : ∀ (l : List Oper) {s : St} {c c' : St → Option R} {x : R}, (∀ s y, c s = some y → c' s = some y) → evOps P A ev ops l s c = some x → evOps P A ev' ops l s c' = some x
  | [], s, c, c', x, hc, hx => hc _ _ hx
  | o :: r, s, c, c', x, hc, hx => by
    have step : ∀ (s : St), evOp P A ev o s (fun s => evOps P A ev ops r s c) = some x → evOp P A ev' o s (fun s => evOps P A ev' ops r s c') = some x := by
      intro s hs
      obtain ⟨s', h1, h2⟩ := evOp_some hs
      have := evOp_bind (fun s => evOps P A ev' ops r s c') P A ev' o s some
      simp only [Option.bind_some] at this
      rw [← this, evOp_le hle h1]
      exact evOps_le hle r hc h2
    simp only [evOps, setK_eq] at hx ⊢
    split at hx
    · exact step _ hx
    · rename_i j w _
      replace hx := oB hx
      obtain ⟨d, h1, hx⟩ := hx
      replace hx := oB hx
      obtain ⟨y, h2, hx⟩ := hx
      rw [h1, Option.bind_some, h2, Option.bind_some]
      split at hx
      · rename_i t
        cases w <;> cases t <;> simp only [cond_true, cond_false] at hx ⊢ <;> first | exact step _ hx | exact evOps_le hle r hc hx
      · exact evOps_le hle r hc hx
      · cases hx
theorem loopN_le {R : Type} {m : St → St} {body body' : St → (Ex → St → Option R) → Option R} (hb : ∀ s c c' x, (∀ e s y, c e s = some y → c' e s = some y) → body s c = some x → body' s c' = some x) {c c' : Ex → St → Option R} (hc : ∀ e s y, c e s = some y → c' e s = some y) :
    ∀ (n n' : Nat) {s : St} {x : R}, n ≤ n' → loopN m body c n s = some x → loopN m body' c' n' s = some x
  | 0, _, _, _, _, hx => by cases hx
  | n + 1, 0, _, _, hn, _ => by omega
  | n + 1, n' + 1, s, x, hn, hx => by
    simp only [loopN] at hx ⊢
    refine hb _ _ _ _ (fun e s y hy => ?_) hx
    cases e with
    | normal => exact loopN_le hb hc n n' (by omega) hy
    | exit i => exact hc _ _ _ hy
    | ret => exact hc _ _ _ hy
theorem evCode_le (hrj : A.rj = []) (hle : Tv ev ev') {R : Type} {k k' : Nat} (hk : k ≤ k') : ∀ (c : Code) (blk : Nat) (s : St) {K K' : Ex → St → Option R} {x : R}, (∀ e s y, K e s = some y → K' e s = some y) → evCode P A ev dOk k c blk s K = some x → evCode P A ev' dOk k' c blk s K' = some x
  | .skip, _, s, K, K', x, hK, hx => hK _ _ _ hx
  | .label _, _, s, K, K', x, hK, hx => hK _ _ _ hx
  | .region id ops draw, _, s, K, K', x, hK, hx => by
    simp only [evCode, evRegion, hrj, List.find?_nil] at hx ⊢
    cases hg : (!draw || (dOk A ops && freshAll A ops s)) with
    | false => rw [hg] at hx; cases hx
    | true =>
      rw [hg] at hx
      simp only [guardB, cond_true] at hx ⊢
      exact evOps_le hle _ (fun s y hy => hK _ _ _ hy) hx
  | .seq a b, blk, s, K, K', x, hK, hx => by
    simp only [evCode] at hx ⊢
    refine evCode_le hrj hle hk a blk s (fun e s y hy => ?_) hx
    cases e with
    | normal => exact evCode_le hrj hle hk b blk s hK hy
    | exit i => exact hK _ _ _ hy
    | ret => exact hK _ _ _ hy
  | .cond q a b, blk, s, K, K', x, hK, hx => by
    simp only [evCode] at hx ⊢
    obtain ⟨v, h1, hx⟩ := oB hx
    rw [h1]
    cases v with
    | agg _ => cases hx
    | sc v => cases v with
      | bool t =>
        cases t with
        | true => exact evCode_le hrj hle hk a blk s hK hx
        | false => exact evCode_le hrj hle hk b blk s hK hx
      | _ => cases hx
  | .block id b, _, s, K, K', x, hK, hx => by
    simp only [evCode] at hx ⊢
    refine evCode_le hrj hle hk b id s (fun e s y hy => ?_) hx
    cases e with
    | normal => exact hK _ _ _ hy
    | exit i =>
      simp only [kBlock] at hy ⊢
      cases hb : Nat.beq i id <;> rw [hb] at hy <;> exact hK _ _ _ hy
    | ret => exact hK _ _ _ hy
  | .loop b, blk, s, K, K', x, hK, hx => by
    simp only [evCode] at hx ⊢
    exact loopN_le (fun s c c' x hc hx => evCode_le hrj hle hk b blk s hc hx) hK k k' hk hx
  | .exit id, _, s, K, K', x, hK, hx => hK _ _ _ hx
  | .ret, _, s, K, K', x, hK, hx => hK _ _ _ hx
  | .rangeFunc _ _ _ _, _, _, _, _, _, hK, hx => by simp only [evCode] at hx ⊢; exact rangeK_le hle hK hx
  | .scope _, _, _, _, _, _, _, hx => by cases hx
  | .goto _, _, _, _, _, _, _, hx => by cases hx
  | .refuse _, _, _, _, _, _, _, hx => by cases hx
theorem evF_le {An : FuncId → FAn} (hrj : ∀ f, (An f).rj = []) : ∀ {k k' : Nat}, k ≤ k' → Tv (evF P An dOk k) (evF P An dOk k')
  | 0, _, _, _, _, _, _, hx => by cases hx
  | k + 1, 0, h, _, _, _, _, _ => by omega
  | k + 1, k' + 1, h, f, as, hh, r, hx => by
    cases f with
    | func f =>
      simp only [evF] at hx ⊢
      obtain ⟨fn, h1, hx⟩ := oB hx
      obtain ⟨code, h2, hx⟩ := oB hx
      rw [h1, Option.bind_some, h2, Option.bind_some]
      cases hg : (Nat.beq as.length fn.params.size || decide (as.length ≤ fn.ntmps)) with
      | false => rw [hg] at hx; cases hx
      | true =>
        rw [hg] at hx
        simp only [guardB, cond_true] at hx ⊢
        exact evCode_le (hrj f) (evF_le hrj (by omega)) (by omega) code 0 _ (fun _ _ _ h => h) hx
    | yield id =>
      simp only [evF] at hx ⊢
      split at hx
      case h_2 => cases hx
      rename_i l hl
      cases hg : (Nat.beq as.length l.params.length && zB l.assign && zB l.body) with
      | false => rw [hg] at hx; cases hx
      | true =>
        rw [hg] at hx
        simp only [guardB, cond_true] at hx ⊢
        refine evCode_le (hrj _) (evF_le hrj (by omega)) (by omega) l.assign 0 _ (fun e s y hy => ?_) hx
        unfold kBegin at hy ⊢
        split at hy
        case h_2 => cases hy
        rename_i l1 hl1
        cases hb : Nat.beq l1.st 0 with
        | false => rw [hb] at hy; cases hy
        | true =>
          rw [hb] at hy
          simp only [guardB, cond_true] at hy ⊢
          exact evCode_le (hrj _) (evF_le hrj (by omega)) (by omega) l.body 0 _ (fun _ _ _ h => h) hy
    | _ => cases hx
end
end Go.AM
