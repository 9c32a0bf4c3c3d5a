/- Where two lists are made whose order is open: memory with two objects exchanged. -/
import Derived.Test.YthbinbcgjhnijaaB2
import Derived.LoopNIn
set_option linter.all false
namespace Go.AM
open Go.RowKit
def tr (q i : Nat) : Nat := if i = q then q + 1 else if i = q + 1 then q else i
theorem Vq (q i : Nat) : tr q (tr q i) = i := by
  unfold tr
  by_cases h1 : i = q
  · simp [h1]
  · by_cases h2 : i = q + 1
    · simp [h2]
    · simp [h1, h2]
theorem Ug {q i : Nat} (h : i < q) : tr q i = i := by unfold tr; rw [if_neg (by omega), if_neg (by omega)]
theorem tr_gt {q i : Nat} (h : q + 1 < i) : tr q i = i := by unfold tr; rw [if_neg (by omega), if_neg (by omega)]
def sw {α : Type} (q : Nat) (l : List α) : List α := match l[q]?, l[q + 1]? with
  | some a, some b => (l.set q b).set (q + 1) a
  | _, _ => l
theorem xT {α : Type} (q : Nat) (l : List α) : (sw q l).length = l.length := by unfold sw; split <;> simp
theorem wo {α : Type} {q : Nat} {l : List α} (h : q + 1 < l.length) (i : Nat) : (sw q l)[i]? = l[tr q i]? := by
  have h1 : l[q]? = some l[q] := List.getElem?_eq_getElem (by omega)
  have h2 : l[q + 1]? = some l[q + 1] := List.getElem?_eq_getElem h
  unfold sw
  rw [h1, h2]
  simp only
  by_cases c1 : i = q
  · subst c1
    rw [List.getElem?_set_ne (by omega), List.getElem?_set_self (by omega)]
    unfold tr; rw [if_pos rfl, h2]
  · by_cases c2 : i = q + 1
    · subst c2
      rw [List.getElem?_set_self (by simp; omega)]
      unfold tr; rw [if_neg (by omega), if_pos rfl, h1]
    · rw [List.getElem?_set_ne (by omega), List.getElem?_set_ne (by omega)]
      unfold tr; rw [if_neg c1, if_neg c2]
theorem sw_snoc {α : Type} {q : Nat} {l : List α} (h : q + 1 < l.length) (x : α) : sw q (l ++ [x]) = sw q l ++ [x] := by
  apply List.ext_getElem?
  intro i
  rw [wo (by simp; omega)]
  by_cases hi : i < l.length
  · have ht : tr q i < l.length := by unfold tr; split <;> (try split) <;> omega
    rw [List.getElem?_append_left ht, List.getElem?_append_left (by rw [xT]; exact hi), wo h]
  · rw [tr_gt (by omega), List.getElem?_append_right (by omega), List.getElem?_append_right (by rw [xT]; omega), xT]
theorem sw_last {α : Type} (l : List α) (x y : α) : sw l.length (l ++ [x] ++ [y]) = l ++ [y] ++ [x] := by
  apply List.ext_getElem?
  intro i
  rw [wo (by simp)]
  rcases Nat.lt_trichotomy i l.length with h | h | h
  · rw [Ug h]
    simp only [List.append_assoc]
    rw [List.getElem?_append_left h, List.getElem?_append_left h]
  · subst h
    unfold tr; rw [if_pos rfl]
    simp
  · by_cases h2 : i = l.length + 1
    · subst h2
      unfold tr; rw [if_neg (by omega), if_pos rfl]
      simp
    · rw [tr_gt (by omega), List.getElem?_eq_none (by simp; omega), List.getElem?_eq_none (by simp; omega)]
noncomputable def AO.ren (f : Nat → Nat) : AO → AO
  | .row own e cs => .row own e (Sc.renL f cs)
  | .box e cs => .box e (Sc.renL f cs)
  | .dead => .dead
  | .loop l => .loop { l with sl := l.sl.map (SV.ren f) }
noncomputable def St.ren (q : Nat) (s : St) : St := { sl := s.sl.map (SV.ren (tr q)), lo := s.lo.map (Option.map (Sc.renL (tr q))), h := (sw q s.h).map (AO.ren (tr q)) }
theorem xn (f : Nat → Nat) : ∀ (l : List Sc), Sc.renL f l = l.map (Sc.ren f)
  | [] => rfl
  | c :: r => by rw [Sc.renL, xn f r]; rfl
section
variable {I I' : List Loc} {f : Nat → Nat}
theorem fnIn_ren (hI : ∀ i L, I[f i]? = some L → I'[i]? = some L) {g : Fn} {cap : Array Value} (h : VG I cap (YQ f g)) : VG I' cap g ∧ YH I (YQ f g) = YH I' g := by
  cases g <;> try exact ⟨trivial, rfl⟩
  rename_i id
  have h1 : f id < I.length := h.1
  have h2 := hI id _ (List.getElem?_eq_getElem h1)
  refine ⟨⟨(List.getElem?_eq_some_iff.1 h2).1, h.2⟩, ?_⟩
  simp only [YQ, YH, h2, List.getElem?_eq_getElem h1]
theorem fnRen_fix {q : Nat} (hq : I.length ≤ q) {g : Fn} {cap : Array Value} (h : VG I cap g) : YQ (tr q) g = g := by
  cases g <;> try rfl
  rename_i id
  have h1 : id < I.length := h.1
  simp only [YQ]
  rw [Ug (by omega)]
mutual
theorem Ym (hI : ∀ i L, I[f i]? = some L → I'[i]? = some L) : ∀ (s : Sc) (v : Value), ScRel I (s.ren f) v → ScRel I' s v
  | .ptr _ _, _, ⟨L, h1, h2⟩ => ⟨L, hI _ _ h1, h2⟩
  | .sl _ _ _, _, ⟨L, c, a, h1, h2⟩ => ⟨L, c, a, hI _ _ h1, h2⟩
  | .fn _ _ _ cs, _, ⟨g, c, h1, h2, h3, h0, h4⟩ => ⟨g, c, h1.trans (by rw [(fnIn_ren hI h0).2]), h2, h3, (fnIn_ren hI h0).1, wU hI cs _ h4⟩
  | .bool _, _, r => r
  | .int _ _, _, r => r
  | .str _, _, r => r
  | .nilp, _, r => r
  | .nils _, _, r => r
  | .nilf, _, r => r
  | .nili, _, r => r
theorem wU (hI : ∀ i L, I[f i]? = some L → I'[i]? = some L) : ∀ (s : List Sc) (v : List Value), ScRels I (Sc.renL f s) v → ScRels I' s v
  | [], [], _ => trivial
  | x :: xs, v :: vs, ⟨h1, h2⟩ => ⟨Ym hI x v h1, wU hI xs vs h2⟩
  | [], _ :: _, r => r
  | _ :: _, [], r => r
end
theorem Qp (hI : ∀ i L, I[f i]? = some L → I'[i]? = some L) {a : AV} {v : Value} (r : AVRel I (a.ren f) v) : AVRel I' a v := by
  cases a with
  | sc s => exact Ym hI s v r
  | agg cs => obtain ⟨arr, h1, h2⟩ := r; exact ⟨arr, h1, wU hI _ _ h2⟩
theorem Ur (hI : ∀ i L, I[f i]? = some L → I'[i]? = some L) : ∀ {a : List AV} {v : List Value}, AVRels I (a.map (AV.ren f)) v → AVRels I' a v
  | [], [], _ => trivial
  | _ :: _, _ :: _, ⟨h1, h2⟩ => ⟨Qp hI h1, Ur hI h2⟩
  | [], _ :: _, r => r.elim
  | _ :: _, [], r => r.elim
theorem Qe (hI : ∀ i L, I[f i]? = some L → I'[i]? = some L) {lam : Nat → Nat} {a : SV} {v : Value} (r : SVRel I lam (a.ren f) v) : SVRel I' lam a v := by
  cases a with
  | u => trivial
  | no => exact r
  | v a => exact Qp hI r
  | t vs => obtain ⟨arr, h1, h2⟩ := r; exact ⟨arr, h1, Ur hI h2⟩
  | l k o => exact r
  | s k n => exact r
mutual
theorem Vh {q : Nat} (hq : I.length ≤ q) : ∀ (s : Sc) (v : Value), ScRel I s v → s.ren (tr q) = s
  | .ptr _ _, _, ⟨L, h1, h2⟩ => by rw [Sc.ren, Ug (by have := (List.getElem?_eq_some_iff.1 h1).1; omega)]
  | .sl _ _ _, _, ⟨L, c, a, h1, h2⟩ => by rw [Sc.ren, Ug (by have := (List.getElem?_eq_some_iff.1 h1).1; omega)]
  | .fn _ _ _ cs, _, ⟨g, c, h1, h2, h3, h0, h4⟩ => by rw [Sc.ren, wQ hq cs _ h4, fnRen_fix hq h0]
  | .bool _, _, _ => rfl
  | .int _ _, _, _ => rfl
  | .str _, _, _ => rfl
  | .nilp, _, _ => rfl
  | .nils _, _, _ => rfl
  | .nilf, _, _ => rfl
  | .nili, _, _ => rfl
theorem wQ {q : Nat} (hq : I.length ≤ q) : ∀ (s : List Sc) (v : List Value), ScRels I s v → Sc.renL (tr q) s = s
  | [], [], _ => rfl
  | x :: xs, v :: vs, ⟨h1, h2⟩ => by rw [Sc.renL, Vh hq x v h1, wQ hq xs vs h2]
  | [], _ :: _, r => r.elim
  | _ :: _, [], r => r.elim
end
theorem TJ {q : Nat} (hq : I.length ≤ q) {a : AV} {v : Value} (r : AVRel I a v) : a.ren (tr q) = a := by
  cases a with
  | sc s => rw [AV.ren, Vh hq s v r]
  | agg cs => obtain ⟨arr, h1, h2⟩ := r; rw [AV.ren, wQ hq _ _ h2]
theorem Ud {q : Nat} (hq : I.length ≤ q) : ∀ {a : List AV} {v : List Value}, AVRels I a v → a.map (AV.ren (tr q)) = a
  | [], [], _ => rfl
  | _ :: _, _ :: _, ⟨h1, h2⟩ => by rw [List.map_cons, TJ hq h1, Ud hq h2]
  | [], _ :: _, r => r.elim
  | _ :: _, [], r => r.elim
theorem Qn {q : Nat} (hq : I.length ≤ q) {lam : Nat → Nat} {a : SV} {v : Value} (r : SVRel I lam a v) : a.ren (tr q) = a := by
  cases a with
  | u => rfl
  | no => rfl
  | v a => rw [SV.ren, TJ hq r]
  | t vs => obtain ⟨arr, h1, h2⟩ := r; rw [SV.ren, Ud hq h2]
  | l k o => rfl
  | s k n => rfl
end
structure Wf (s : St) : Prop where
  sl : ∀ q, s.h.length ≤ q → ∀ (i : Nat) v, s.sl.get i = some v → v.ren (tr q) = v
  lo : ∀ q, s.h.length ≤ q → ∀ (k : Nat) cs, s.lo.get k = some cs → cs.map (Sc.renL (tr q)) = cs
  h : ∀ q, s.h.length ≤ q → ∀ o ∈ s.h, o.ren (tr q) = o
variable {P : Program} {A : FAn} {ev : Ev} {B : Nat} {Ie : List Loc} {he : AH} {we : World} {I : List Loc} {lam : Nat → Nat} {s t : St} {a : Act} {w : World} {ops : Array Oper}
theorem cells_fix {q : Nat} {cs : List Sc} (h : ∀ (j : Nat) c, cs[j]? = some c → c.ren (tr q) = c) : Sc.renL (tr q) cs = cs := by
  rw [xn]
  apply List.ext_getElem?
  intro i
  rw [List.getElem?_map]
  cases hi : cs[i]? with
  | none => rfl
  | some c => rw [Option.map_some, h i c hi]
theorem Rel.wf (r : Rel P B Ie he we I lam s a w) : Wf s where
  sl q hq i v hv := by
    obtain ⟨x, _, hx⟩ := r.tm i v hv
    exact Qn (by rw [r.hp.len]; exact hq) hx
  lo q hq k cs hk := by
    cases cs with
    | none => rfl
    | some cs =>
      obtain ⟨_, ⟨arr, e, _, h⟩, _⟩ := r.lo.cells k cs hk
      rw [Option.map_some, wQ (by rw [r.hp.len]; exact hq) _ _ h]
  h q hq o ho := by
    obtain ⟨i, hi⟩ := List.getElem?_of_mem ho
    have hlt : i < I.length := by rw [r.hp.len]; exact (List.getElem?_eq_some_iff.1 hi).1
    have ho := r.hp.obj i o _ hi (List.getElem?_eq_getElem hlt)
    cases o with
    | row own e cs =>
      have hc : ∀ (j : Nat) c, cs[j]? = some c → ∃ v, ScRel I c v := by
        intro j c hj
        cases own with
        | false => obtain ⟨_, _, h⟩ := ho; obtain ⟨v, _, hv⟩ := h j c hj; exact ⟨v, hv⟩
        | true => obtain ⟨_, _, arr, _, _, _, h⟩ := ho; obtain ⟨v, _, hv⟩ := h j c hj; exact ⟨v, hv⟩
      rw [AO.ren, cells_fix fun j c hj => by
        obtain ⟨v, hv⟩ := hc j c hj
        exact Vh (by rw [r.hp.len]; exact hq) c v hv]
    | box e cs =>
      obtain ⟨_, _, _, arr, _, h⟩ := ho
      rw [AO.ren, wQ (by rw [r.hp.len]; exact hq) _ _ h]
    | dead => rfl
    | loop l =>
      obtain ⟨_, _, _, _, _, _, _, _, h⟩ := ho
      have e : l.sl.map (SV.ren (tr q)) = l.sl := by
        refine Tr.map_id' fun i v hv => ?_
        obtain ⟨x, _, hx, _⟩ := h i v hv
        exact Qn (by rw [r.hp.len]; exact hq) hx
      rw [AO.ren, e]
theorem Rel.unren {q : Nat} (r : Rel P B Ie he we I lam (St.ren q s) a w) (h1 : Ie.length ≤ q) (h2 : q + 1 < s.h.length) : Rel P B Ie he we (sw q I) lam s a w := by
  have hl : I.length = s.h.length := by have := r.hp.len; simpa [St.ren, xT] using this
  have hI : ∀ i L, I[tr q i]? = some L → (sw q I)[i]? = some L := fun i L h => by rw [wo (by omega)]; exact h
  have hI2 : ∀ {i L}, (sw q I)[i]? = some L → I[tr q i]? = some L := fun h => by rw [wo (by omega)] at h; exact h
  have hh : ∀ {i o}, s.h[i]? = some o → (St.ren q s).h[tr q i]? = some (o.ren (tr q)) := fun {i o} h => by
    show ((sw q s.h).map _)[_]? = _
    rw [List.getElem?_map, wo h2, Vq, h]; rfl
  have own : ∀ b, OwnB (sw q I) s.h b → OwnB I (St.ren q s).h b := by
    rintro b ⟨i, o, L, g1, g2, g3, g4⟩
    exact ⟨tr q i, _, L, hh g1, by cases o <;> first | exact g2 | (rename_i ow _ _; cases ow <;> exact g2), hI2 g3, g4⟩
  refine ⟨fun i v hv => ?_, ⟨fun k cs hk => ?_, fun k k' cs cs' hk hk' => ?_⟩, ⟨by rw [xT]; exact hl, fun i o L g1 g2 => ?_, fun i j o o' L L' g1 g2 g3 g4 g5 g6 g7 => ?_⟩, ⟨?_, r.kp.bel, r.kp.size, r.kp.foot, fun b hb => r.kp.fresh b (own b hb)⟩, r.base, r.df⟩
  · obtain ⟨x, g1, g2⟩ := r.tm i (v.ren (tr q)) (by show (s.sl.map _).get i = _; rw [Tr.get_map, hv]; rfl)
    exact ⟨x, g1, Qe hI g2⟩
  · obtain ⟨g1, ⟨arr, e, g2, g3⟩, g4⟩ := r.lo.cells k (Sc.renL (tr q) cs) (by show (s.lo.map _).get k = _; rw [Tr.get_map, hk]; rfl)
    exact ⟨g1, ⟨arr, e, g2, wU hI _ _ g3⟩, fun hb => g4 (own _ hb)⟩
  · exact r.lo.apart k k' _ _ (by show (s.lo.map _).get k = some (some (Sc.renL (tr q) cs)); rw [Tr.get_map, hk]; rfl) (by show (s.lo.map _).get k' = some (some (Sc.renL (tr q) cs')); rw [Tr.get_map, hk']; rfl)
  · have ho := r.hp.obj (tr q i) _ L (hh g1) (hI2 g2)
    cases o with
    | row ow e cs =>
      have hc : ∀ (j : Nat) c, cs[j]? = some c → (Sc.renL (tr q) cs)[j]? = some (c.ren (tr q)) := fun j c h => by rw [xn, List.getElem?_map, h]; rfl
      cases ow with
      | false =>
        obtain ⟨k1, k2, k3⟩ := ho
        exact ⟨k1, k2, fun j c hj => by obtain ⟨v, e1, e2⟩ := k3 j _ (hc j c hj); exact ⟨v, e1, Ym hI c v e2⟩⟩
      | true =>
        obtain ⟨k1, k2, arr, k3, k4, k5, k6⟩ := ho
        exact ⟨k1, k2, arr, k3, k4, by rw [xn, List.length_map] at k5; exact k5, fun j c hj => by obtain ⟨v, e1, e2⟩ := k6 j _ (hc j c hj); exact ⟨v, e1, Ym hI c v e2⟩⟩
    | box e cs =>
      obtain ⟨k1, k2, k3, arr, k4, k5⟩ := ho
      exact ⟨k1, k2, k3, arr, k4, wU hI _ _ k5⟩
    | dead => trivial
    | loop l =>
      obtain ⟨k1, r, k2, k3, k4, k5, k6, k7, k8⟩ := ho
      refine ⟨k1, r, k2, k3, k4, k5, k6, k7, fun i v hv => ?_⟩
      obtain ⟨x, g1, g2, g3⟩ := k8 i (v.ren (tr q)) (by show (l.sl.map _).get i = _; rw [Tr.get_map, hv]; rfl)
      refine ⟨x, g1, Qe hI g2, ?_⟩
      cases v <;> first | rfl | (simp [SV.ren, noLoc] at g3)
  · have := r.hp.uniq (tr q i) (tr q j) _ _ L L' (hh g1) (hh g2) (by cases o <;> first | exact g3 | (rename_i ow _ _; cases ow <;> exact g3)) (by cases o' <;> first | exact g4 | (rename_i ow _ _; cases ow <;> exact g4)) (hI2 g5) (hI2 g6) g7
    have e := congrArg (tr q) this
    rwa [Vq, Vq] at e
  · have hp := List.prefix_iff_eq_take.1 r.kp.pre
    rw [List.prefix_iff_eq_take]
    apply List.ext_getElem?
    intro i
    rw [List.getElem?_take]
    by_cases hi : i < Ie.length
    · rw [if_pos hi, wo (by omega), Ug (by omega)]
      have e := congrArg (fun l => l[i]?) hp
      simp only [List.getElem?_take, if_pos hi] at e
      exact e
    · rw [if_neg hi, List.getElem?_eq_none (by omega)]
inductive Rn (n : Nat) : St → St → Prop
  | refl (s : St) : Rn n s s
  | step {s t : St} (q : Nat) (h1 : n ≤ q) (h2 : q + 1 < s.h.length) (r : Rn n s t) : Rn n (St.ren q s) t
theorem Rn.rel {n : Nat} {s t : St} (h : Rn n s t) (hn : Ie.length ≤ n) : ∀ {I : List Loc}, Rel P B Ie he we I lam s a w → ∃ I', Rel P B Ie he we I' lam t a w := by
  induction h with
  | refl s => exact fun r => ⟨_, r⟩
  | step q h1 h2 _ ih => exact fun r => ih (r.unren (by omega) h2)
variable {P : Program} {A : FAn} {ev : Ev} {B : Nat} {Ie : List Loc} {he : AH} {we : World} {I : List Loc} {lam : Nat → Nat} {s t : St} {a : Act} {w : World} {ops : Array Oper}
theorem Zk {f : Nat → Nat} {v : Value} {x : Sc} (h : ofConst v = some x) : x.ren f = x := by
  unfold ofConst at h
  split at h <;> first | (cases h; rfl) | cases h
theorem WI {f : Nat → Nat} : ∀ {l : List Value} {z : List Sc}, ofConsts l = some z → Sc.renL f z = z
  | [], z, h => by cases h; rfl
  | v :: r, z, h => by
    simp only [ofConsts, Option.bind_eq_some_iff] at h
    obtain ⟨x, h1, xs, h2, h3⟩ := h
    cases h3
    rw [Sc.renL, Zk h1, WI h2]
theorem wv {f : Nat → Nat} {e : TypeId} {z : List Sc} (h : zeroCells P e = some z) : Sc.renL f z = z := by
  simp only [zeroCells, Option.bind_eq_some_iff] at h
  obtain ⟨_, _, _, _, h⟩ := h
  exact WI h
theorem renL_append (f : Nat → Nat) (l m : List Sc) : Sc.renL f (l ++ m) = Sc.renL f l ++ Sc.renL f m := by simp only [xn, List.map_append]
theorem Tk {f : Nat → Nat} {z : List Sc} (h : Sc.renL f z = z) : ∀ n, Sc.renL f (rep n z) = rep n z
  | 0 => rfl
  | n + 1 => by
    have e : rep (n + 1) z = z ++ rep n z := by simp [rep, List.replicate_succ]
    rw [e, renL_append, h, Tk h n]
theorem ZP (q : Nat) (s : St) (x : Operand) : evA (St.ren q s) x = (evA s x).map (SV.ren (tr q)) := by
  cases x with
  | tmp t => exact Tr.get_map _ _ _
  | const v =>
    simp only [evA]
    cases h : ofConst v with
    | none => rfl
    | some x => simp only [Option.bind_some, Option.map_some, SV.ren, AV.ren, Zk h]
  | func f => rfl
  | global g => rfl
theorem Tb (q : Nat) (s : St) (x : Operand) : evV (St.ren q s) x = (evV s x).map (AV.ren (tr q)) := by
  unfold evV
  rw [ZP]
  cases evA s x with
  | none => rfl
  | some v => cases v <;> rfl
theorem yC (q : Nat) (s : St) (d : Option Tmp) (v : SV) : St.ren q (setSl s d v) = setSl (St.ren q s) d (v.ren (tr q)) := by
  cases d with
  | none => rfl
  | some d => simp only [setSl, St.ren, Tr.map_set]
theorem push_ren {q : Nat} {s : St} (h : q + 1 < s.h.length) (o : AO) : St.ren q { s with h := s.h ++ [o] } = { St.ren q s with h := (St.ren q s).h ++ [o.ren (tr q)] } := by
  simp only [St.ren, sw_snoc h, List.map_append, List.map_cons, List.map_nil]
theorem YA {q : Nat} {s : St} (hq : q + 1 < s.h.length) {i : Nat} : (St.ren q s).h[tr q i]? = (s.h[i]?).map (AO.ren (tr q)) := by
  show ((sw q s.h).map _)[_]? = _
  rw [List.getElem?_map, wo hq, Vq]
theorem Vk {f : Nat → Nat} (o : AO) : yg (o.ren f) = (yg o).map (Sc.renL f) := by cases o <;> rfl
theorem yu (f : Nat → Nat) (l : List Sc) : (Sc.renL f l).length = l.length := by rw [xn, List.length_map]
theorem VJ {f : Nat → Nat} {cs l : List Sc} {off n : Nat} (h : cutK cs off n some = some l) : cutK (Sc.renL f cs) off n some = some (Sc.renL f l) := by
  unfold cutK at h ⊢
  obtain ⟨h1, h2⟩ := gB.1 h
  cases h2
  rw [yu, h1]
  simp only [xn, List.map_take, List.map_drop, guardB, cond_true]
theorem YV (f : Nat → Nat) (cs v : List Sc) (off : Nat) : Sc.renL f (splice cs off v) = splice (Sc.renL f cs) off (Sc.renL f v) := by
  simp only [splice, xn, List.map_append, List.map_take, List.map_drop, List.length_map]
theorem loadAt_ren {q : Nat} (hq : q + 1 < s.h.length) {sv : SV} {n : Nat} {l : List Sc} (h : loadAt s sv n some = some l) : loadAt (St.ren q s) (sv.ren (tr q)) n some = some (Sc.renL (tr q) l) := by
  unfold loadAt at h
  split at h
  · rename_i k off
    obtain ⟨b, h1, h⟩ := oB h
    obtain ⟨cs, rfl, h⟩ := oB h
    show ((s.lo.map _).get k).bind _ = _
    rw [Tr.get_map, h1]
    exact VJ h
  · rename_i p
    unfold asP at h
    split at h
    case h_2 => cases h
    rename_i id off
    unfold ldNK at h
    obtain ⟨o, h1, h⟩ := oB h
    obtain ⟨cs, h2, h⟩ := oB h
    show ldNK (St.ren q s).h (tr q id) off n some = _
    unfold ldNK
    rw [YA hq, h1, Option.map_some, Option.bind_some, Vk, h2, Option.map_some, Option.bind_some]
    exact VJ h
  · cases h
theorem load1_ren {q : Nat} (hq : q + 1 < s.h.length) {sv : SV} {x : Sc} (h : load1 s sv some = some x) : load1 (St.ren q s) (sv.ren (tr q)) some = some (x.ren (tr q)) := by
  unfold load1 at h
  split at h
  · rename_i k off
    obtain ⟨b, h1, k2⟩ := oB h
    obtain ⟨cs, rfl, k3⟩ := oB k2
    obtain ⟨y, h2, k4⟩ := oB k3
    cases k4
    show ((s.lo.map _).get k).bind _ = _
    rw [Tr.get_map, h1]
    simp only [Option.map_some, Option.bind_some, xn, List.getElem?_map, h2]
  · rename_i p
    unfold asP at h
    split at h
    case h_2 => cases h
    rename_i id off
    obtain ⟨y, h1, h⟩ := oB h
    cases h
    unfold ld1 at h1
    obtain ⟨o, h2, h1⟩ := oB h1
    obtain ⟨cs, h3, h1⟩ := oB h1
    show (ld1 (St.ren q s).h (tr q id) off).bind some = _
    unfold ld1
    rw [YA hq, h2, Option.map_some, Option.bind_some, Vk, h3, Option.map_some, Option.bind_some, xn, List.getElem?_map, h1]
    rfl
  · cases h
theorem sw_set {α : Type} {q : Nat} {l : List α} (h : q + 1 < l.length) {i : Nat} {x : α} (hi : i < l.length) : sw q (l.set i x) = (sw q l).set (tr q i) x := by
  apply List.ext_getElem?
  intro j
  rw [wo (by simpa using h)]
  by_cases e : tr q j = i
  · have e2 : tr q i = j := by rw [← e, Vq]
    rw [e, e2, List.getElem?_set_self hi, List.getElem?_set_self (by
      rw [xT, ← e2]
      unfold tr; split <;> (try split) <;> omega)]
  · have e2 : tr q i ≠ j := fun h => e (by rw [← h, Vq])
    rw [List.getElem?_set_ne (Ne.symm e), List.getElem?_set_ne e2, wo h]
theorem storeAt_ren {q : Nat} (hq : q + 1 < s.h.length) {sv : SV} {v : List Sc} {s' : St} (h : storeAt s sv v some = some s') : storeAt (St.ren q s) (sv.ren (tr q)) (Sc.renL (tr q) v) some = some (St.ren q s') ∧ s.h.length ≤ s'.h.length := by
  have put : ∀ {cs : List Sc} {off : Nat} {l : List Sc}, putK cs off v some = some l → putK (Sc.renL (tr q) cs) off (Sc.renL (tr q) v) some = some (Sc.renL (tr q) l) := by
    intro cs off l h
    unfold putK at h ⊢
    obtain ⟨h1, h2⟩ := gB.1 h
    cases h2
    rw [yu, yu, h1, YV]
    rfl
  have putb : ∀ {cs : List Sc} {off : Nat} {S : Type} {c : List Sc → Option S} {x : S}, putK cs off v c = some x → ∃ l, putK cs off v some = some l ∧ c l = some x := by
    intro cs off S c x h
    unfold putK at h ⊢
    obtain ⟨h1, h2⟩ := gB.1 h
    exact ⟨_, by rw [h1]; rfl, h2⟩
  have puta : ∀ {cs v : List Sc} {off : Nat} {l : List Sc}, putK cs off v some = some l → ∀ {S : Type} (c : List Sc → Option S), putK cs off v c = c l := by
    intro cs v off l h S c
    unfold putK at h ⊢
    obtain ⟨h1, h2⟩ := gB.1 h
    cases h2
    rw [h1]; rfl
  unfold storeAt at h
  split at h
  · rename_i k off
    obtain ⟨b, h1, k2⟩ := oB h
    obtain ⟨cs, rfl, k3⟩ := oB k2
    obtain ⟨l, h2, k4⟩ := putb k3
    rw [Tr.setT_eq] at k4
    cases k4
    refine ⟨?_, Nat.le_refl _⟩
    show ((s.lo.map _).get k).bind _ = _
    rw [Tr.get_map, h1]
    simp only [Option.map_some, Option.bind_some]
    rw [puta (put h2), Tr.setT_eq]
    simp only [St.ren, Tr.map_set, Option.map_some]
  · rename_i p
    unfold asP at h
    split at h
    case h_2 => cases h
    rename_i id off
    unfold stK at h
    obtain ⟨o, h1, h⟩ := oB h
    have hid := (List.getElem?_eq_some_iff.1 h1).1
    have key : storeAt (St.ren q s) (SV.ren (tr q) (.v (.sc (.ptr id off)))) (Sc.renL (tr q) v) some = stK (St.ren q s).h (tr q id) off (Sc.renL (tr q) v) fun h => some { St.ren q s with h := h } := rfl
    rw [key]
    unfold stK
    rw [YA hq, h1, Option.map_some, Option.bind_some]
    have fin : ∀ (o' : AO), St.ren q { s with h := s.h.set id o' } = { St.ren q s with h := (St.ren q s).h.set (tr q id) (o'.ren (tr q)) } := fun o' => by
      simp only [St.ren, sw_set hq hid, List.map_set]
    split at h
    · obtain ⟨l, h2, h⟩ := putb h
      cases h
      refine ⟨?_, by simp⟩
      simp only [AO.ren]
      rw [puta (put h2), fin]; rfl
    · obtain ⟨l, h2, h⟩ := putb h
      cases h
      refine ⟨?_, by simp⟩
      simp only [AO.ren]
      rw [puta (put h2), fin]; rfl
    · cases h
  · cases h
theorem ZF {f : Nat → Nat} {l : Leaf} {x : Sc} {R S : Type} {c : Sc → Option R} {r : R} (h : asLeaf l x c = some r) (d : Sc → Option S) : asLeaf l (x.ren f) d = d (x.ren f) := by
  cases l with
  | any => rfl
  | int k =>
    cases x <;> first | (cases h; done) | skip
    rename_i k' n
    simp only [asLeaf, asI, Sc.ren] at h ⊢
    split at h
    · rename_i e; rw [if_pos e, e]
    · cases h
  | bool => cases x <;> first | (cases h; done) | rfl
theorem wP {f : Nat → Nat} : ∀ {ls : List Leaf} {l : List Sc} {R S : Type} {c : List Sc → Option R} {r : R} (h : asLeaves ls l c = some r) (d : List Sc → Option S), asLeaves ls (Sc.renL f l) d = d (Sc.renL f l)
  | [], l, R, S, c, r, h, d => by
    obtain ⟨rfl, h⟩ := asN_some.1 h
    rfl
  | g :: ls, l, R, S, c, r, h, d => by
    obtain ⟨x, xs, rfl, k⟩ := asC_some.1 h
    simp only [asLeaves, Sc.renL, asC]
    rw [ZF k]
    have h2 := yU (c := fun y => asLeaves ls xs fun ys => c (y :: ys)) k
    exact wP (f := f) (c := fun ys => c (x :: ys)) h2 fun ys => d (x.ren f :: ys)
theorem onlyL_ren {x : Operand} {v : SV} {f : Nat → Nat} : onlyL A x (v.ren f) = onlyL A x v := by cases x <;> cases v <;> rfl
theorem Qy {x : Operand} {v : SV} {f : Nat → Nat} : onlyH A x (v.ren f) = onlyH A x v := by cases x <;> cases v <;> rfl
theorem TZ {x : Operand} {v : SV} {f : Nat → Nat} : onlyR A x (v.ren f) = onlyR A x v := by
  unfold onlyR
  cases rootOf A x with
  | none => rfl
  | some k => cases v <;> rfl
theorem boxOk_ren {q : Nat} (hq : q + 1 < s.h.length) (id : Nat) : boxOk (St.ren q s).h (tr q id) = boxOk s.h id := by
  unfold boxOk
  rw [YA hq]
  cases s.h[id]? with
  | none => rfl
  | some o => cases o with
    | row ow e cs => cases ow <;> rfl
    | box e cs => rfl
    | dead => rfl
    | loop l => rfl
theorem onlyB_ren {q : Nat} (hq : q + 1 < s.h.length) {x : Operand} {v : SV} : onlyB A (St.ren q s).h x (v.ren (tr q)) = onlyB A s.h x v := by
  unfold onlyB
  cases x with
  | tmp d =>
    cases v with
    | v a => cases a with
      | sc c => cases c with
        | ptr id o => simp only [SV.ren, AV.ren, Sc.ren, boxOk_ren hq]
        | _ => rfl
      | agg cs => rfl
    | _ => rfl
  | _ => rfl
theorem onlyX_ren {q : Nat} (hq : q + 1 < s.h.length) {x : Operand} {v : SV} : onlyX A (St.ren q s).h x (v.ren (tr q)) = onlyX A s.h x v := by
  unfold onlyX; rw [Qy, TZ, onlyB_ren hq]
theorem Yh {f : Nat → Nat} (v : AV) : (v.ren f).cells = Sc.renL f v.cells := by cases v <;> rfl
theorem op_ren_load {o : Oper} {ty : TypeId} {x : Operand} (ho : o.op = .load ty x) {q : Nat} (hq : q + 1 < s.h.length) (h : evOp P A ev o s some = some t) : evOp P A ev o (St.ren q s) some = some (St.ren q t) ∧ s.h.length ≤ t.h.length := by
  unfold evOp at h ⊢
  rw [ho] at h ⊢
  simp only [setK_eq] at h ⊢
  obtain ⟨g1, h⟩ := gB.1 h
  obtain ⟨sv, h1, h⟩ := oB h
  obtain ⟨g2, h⟩ := gB.1 h
  rw [ZP, h1, Option.map_some, Option.bind_some, onlyL_ren, onlyX_ren hq, g1, g2]
  simp only [guardB, cond_true]
  rcases cond_some.1 h with ⟨g3, h⟩ | ⟨g3, h⟩
  · obtain ⟨l, h2, h⟩ := yT h
    rw [g3, cond_true]
    have h4 := yI (c := fun ys => some (setSl s o.dst (.v (.agg ys)))) h
    cases h4
    obtain ⟨m, e1, e2⟩ := yT (c := some) (loadAt_ren hq h2)
    cases e2
    have e3 : ∀ {S : Type} (d : List Sc → Option S), loadAt (St.ren q s) (sv.ren (tr q)) (P.cellsOf ty) d = d (Sc.renL (tr q) l) := fun d => by
      have e0 := xM d (St.ren q s) (sv.ren (tr q)) (P.cellsOf ty) some
      simp only [Option.bind_some] at e0
      rw [← e0, e1]; rfl
    rw [e3, wP h, yC]
    exact ⟨rfl, by simp⟩
  · obtain ⟨l, h2, h⟩ := xw h
    rw [g3, cond_false]
    have h4 := yU (c := fun y => some (setSl s o.dst (.v (.sc y)))) h
    cases h4
    have e3 : ∀ {S : Type} (d : Sc → Option S), load1 (St.ren q s) (sv.ren (tr q)) d = d (l.ren (tr q)) := fun d => by
      have e0 := wh d (St.ren q s) (sv.ren (tr q)) some
      simp only [Option.bind_some] at e0
      rw [← e0, load1_ren hq h2]; rfl
    rw [e3, ZF h, yC]
    exact ⟨rfl, by simp⟩
theorem op_ren_store {o : Oper} {ty : TypeId} {x y : Operand} (ho : o.op = .store ty x y) {q : Nat} (hq : q + 1 < s.h.length) (h : evOp P A ev o s some = some t) : evOp P A ev o (St.ren q s) some = some (St.ren q t) ∧ s.h.length ≤ t.h.length := by
  unfold evOp at h ⊢
  rw [ho] at h ⊢
  simp only [setK_eq] at h ⊢
  obtain ⟨g1, h⟩ := gB.1 h
  obtain ⟨sv, h1, h⟩ := oB h
  obtain ⟨v, h2, h⟩ := oB h
  obtain ⟨g2, h⟩ := gB.1 h
  obtain ⟨s', h3, h⟩ := xo h
  cases h
  unfold onlyS at g2 ⊢
  rw [ZP, h1, Tb, h2, g1]
  simp only [guardB, cond_true, Option.map_some, Option.bind_some]
  rw [Qy, TZ, Yh, yu, g2, cond_true]
  obtain ⟨e1, e2⟩ := storeAt_ren hq h3
  have e0 := xj (fun s' => some (setSl s' o.dst .no)) (St.ren q s) (sv.ren (tr q)) (Sc.renL (tr q) v.cells) some
  simp only [Option.bind_some] at e0
  rw [← e0, e1, Option.bind_some, yC]
  exact ⟨rfl, by simpa using e2⟩
theorem WQ {o : Oper} {ty : TypeId} {x : Operand} {i : Nat} (ho : o.op = .fieldAddr ty x i) {q : Nat} (h : evOp P A ev o s some = some t) : evOp P A ev o (St.ren q s) some = some (St.ren q t) ∧ s.h.length ≤ t.h.length := by
  unfold evOp at h ⊢
  rw [ho] at h ⊢
  simp only [setK_eq] at h ⊢
  split at h
  case h_2 => cases h
  obtain ⟨fd, h1, h⟩ := oB h
  obtain ⟨g1, h⟩ := gB.1 h
  obtain ⟨sv, h2, h⟩ := oB h
  rw [h1, Option.bind_some, ZP, h2, g1, Option.map_some, Option.bind_some]
  simp only [guardB, cond_true]
  unfold addAt at h ⊢
  cases sv <;> first | (cases h; done) | skip
  · rename_i a
    cases a <;> first | (cases h; done) | skip
    rename_i c
    cases c <;> first | (cases h; done) | skip
    cases h
    exact ⟨by rw [yC]; rfl, by simp⟩
  · cases h
    exact ⟨by rw [yC]; rfl, by simp⟩
theorem UL {o : Oper} {args : Array Operand} {ts : Array TypeId} (ho : o.op = .call { callee := .builtin .len, args := args, argTypes := ts }) {q : Nat} (h : evOp P A ev o s some = some t) : evOp P A ev o (St.ren q s) some = some (St.ren q t) ∧ s.h.length ≤ t.h.length := by
  unfold evOp at h ⊢
  rw [ho] at h ⊢
  simp only [setK_eq] at h ⊢
  generalize ts.toList = tl at h ⊢
  generalize args.toList = al at h ⊢
  unfold builtinK at h ⊢
  match tl, al, h with
  | [ty], [x], h =>
    simp only at h ⊢
    split at h
    · obtain ⟨sv, h1, h⟩ := oB h
      rw [ZP, h1, Option.map_some, Option.bind_some]
      unfold lenA at h ⊢
      cases sv <;> first | (cases h; done) | skip
      · rename_i a
        cases a <;> first | (cases h; done) | skip
        rename_i c
        cases c <;> first | (cases h; done) | skip
        all_goals (cases h; exact ⟨by rw [yC]; rfl, by simp⟩)
      · cases h
        exact ⟨by rw [yC]; rfl, by simp⟩
    · cases h
      exact ⟨by rw [yC]; rfl, by simp⟩
    · cases h
theorem grow_load {o : Oper} {ty : TypeId} {x : Operand} (ho : o.op = .load ty x) (h : evOp P A ev o s some = some t) : s.h.length ≤ t.h.length := by
  unfold evOp at h
  rw [ho] at h
  simp only [setK_eq] at h
  obtain ⟨g1, h⟩ := gB.1 h
  obtain ⟨sv, h1, h⟩ := oB h
  obtain ⟨g2, h⟩ := gB.1 h
  rcases cond_some.1 h with ⟨g3, h⟩ | ⟨g3, h⟩
  · obtain ⟨l, h2, h⟩ := yT h
    have h4 := yI (c := fun ys => some (setSl s o.dst (.v (.agg ys)))) h
    cases h4; simp
  · obtain ⟨l, h2, h⟩ := xw h
    have h4 := yU (c := fun y => some (setSl s o.dst (.v (.sc y)))) h
    cases h4; simp
theorem grow_store {o : Oper} {ty : TypeId} {x y : Operand} (ho : o.op = .store ty x y) (h : evOp P A ev o s some = some t) : s.h.length ≤ t.h.length := by
  unfold evOp at h
  rw [ho] at h
  simp only [setK_eq] at h
  obtain ⟨g1, h⟩ := gB.1 h
  obtain ⟨sv, h1, h⟩ := oB h
  obtain ⟨v, h2, h⟩ := oB h
  obtain ⟨g2, h⟩ := gB.1 h
  obtain ⟨s', h3, h⟩ := xo h
  cases h
  unfold storeAt at h3
  split at h3
  · obtain ⟨b, q1, q2⟩ := oB h3
    obtain ⟨cs, _, q3⟩ := oB q2
    unfold putK at q3
    obtain ⟨_, q4⟩ := gB.1 q3
    simp only [Tr.setT_eq] at q4
    cases q4; simp
  · unfold asP at h3
    split at h3
    case h_2 => cases h3
    unfold stK at h3
    obtain ⟨o, q1, q2⟩ := oB h3
    split at q2
    · unfold putK at q2
      obtain ⟨_, q4⟩ := gB.1 q2
      cases q4; simp
    · unfold putK at q2
      obtain ⟨_, q4⟩ := gB.1 q2
      cases q4; simp
    · cases q2
  · cases h3
variable {P : Program} {A : FAn} {ev : Ev} {s t : St} {ops : Array Oper}
noncomputable def St.fr (f : Nat → Nat) (h2 : AH) (s : St) : St := { sl := s.sl.map (SV.ren f), lo := s.lo.map (Option.map (Sc.renL f)), h := h2 }
def isV : SV → Bool
  | .v _ => true
  | _ => false
def xU (A : FAn) (s : St) : Prop := ∀ d : Nat, A.loc.contains d = true → ∀ v, s.sl.get d = some v → isV v = false
section
variable {f : Nat → Nat} {h2 : AH}
theorem Zu (s : St) (x : Operand) : evA (St.fr f h2 s) x = (evA s x).map (SV.ren f) := by
  cases x with
  | tmp t => exact Tr.get_map _ _ _
  | const v =>
    simp only [evA]
    cases h : ofConst v with
    | none => rfl
    | some x => simp only [Option.bind_some, Option.map_some, SV.ren, AV.ren, Zk h]
  | func f => rfl
  | global g => rfl
theorem WD (s : St) (x : Operand) : evV (St.fr f h2 s) x = (evV s x).map (AV.ren f) := by
  unfold evV
  rw [Zu]
  cases evA s x with
  | none => rfl
  | some v => cases v <;> rfl
theorem xx (s : St) (d : Option Tmp) (v : SV) : St.fr f h2 (setSl s d v) = setSl (St.fr f h2 s) d (v.ren f) := by
  cases d with
  | none => rfl
  | some d => simp only [setSl, St.fr, Tr.map_set]
theorem Tr.map_map {α β γ : Type} (g : β → γ) (f : α → β) : ∀ (t : Tr α), (t.map f).map g = t.map fun x => g (f x)
  | .nil => rfl
  | .leaf v => rfl
  | .node l r => by
    show Tr.node ((l.map f).map g) ((r.map f).map g) = Tr.node _ _
    rw [Tr.map_map g f l, Tr.map_map g f r]
    rfl
theorem kill_ren (d : Nat) (v : SV) : killL d (v.ren f) = (killL d v).ren f := by
  cases v with
  | l k o => simp only [SV.ren, killL]; cases Nat.beq k d <;> rfl
  | s k n => simp only [SV.ren, killL]; cases Nat.beq k d <;> rfl
  | _ => rfl
theorem VC (s : St) (d : Tmp) (a : SV) (z : List Sc) : St.fr f h2 (newLocal s d a z) = newLocal (St.fr f h2 s) d (a.ren f) (Sc.renL f z) := by
  simp only [newLocal, St.fr, Tr.map_set, Tr.map_map, kill_ren, Option.map_some]
end
def inLoc (A : FAn) (x : Operand) : Bool := match x with
  | .tmp d => A.loc.contains d
  | _ => false
def Vc (A : FAn) (o : Oper) : Bool := o.guard.isNone && (match o.op with
  | .alloc _ | .box _ _ => (match o.dst with | some d => A.loc.contains d | none => false)
  | .store _ x _ => (rootOf A x).isSome && (match o.dst with | some d => !(A.loc.contains d) | none => true)
  | .load _ (.tmp d) => A.loc.contains d && (match o.dst with | some d => !(A.loc.contains d) | none => true)
  | .move _ | .assign _ => (match o.dst with | some d => !(A.loc.contains d) | none => true)
  | .fieldAddr _ x _ | .indexAddr _ x _ => (match o.dst with | some d => !(A.loc.contains d) | none => true) || inLoc A x
  | _ => false)
theorem locS_set {v : SV} {d : Option Tmp} {h : AH} (hs : xU A s) (hd : (match d with | some d => !(A.loc.contains d) | none => true) = true) : xU A (setSl { s with h := h } d v) := by
  intro e he w hw
  cases d with
  | none => exact hs e he w hw
  | some d =>
    simp only [setSl] at hw
    have hne : d ≠ e := fun h => by subst h; simp only [he] at hd; cases hd
    rw [Tr.get_set_ne _ hne] at hw
    exact hs e he w hw
theorem Qm {v : SV} {d : Option Tmp} (hs : xU A s) (hv : isV v = false) : xU A (setSl s d v) := by
  intro e he w hw
  cases d with
  | none => exact hs e he w hw
  | some d =>
    simp only [setSl] at hw
    by_cases h : d = e
    · subst h
      rw [Tr.get_set_self] at hw
      obtain ⟨_, _, rfl⟩ := oM hw
      exact hv
    · rw [Tr.get_set_ne _ h] at hw
      exact hs e he w hw
theorem WS {x : Operand} {sv : SV} (hs : xU A s) (hx : inLoc A x = true) (h : evA s x = some sv) : isV sv = false := by
  unfold inLoc at hx
  split at hx
  · exact hs _ hx _ h
  · cases hx
theorem locS_new {d : Nat} {a : SV} {z : List Sc} (hs : xU A s) (ha : isV a = false) : xU A (newLocal s d a z) := by
  intro e he w hw
  simp only [newLocal] at hw
  by_cases h : d = e
  · subst h
    rw [Tr.get_set_self] at hw
    obtain ⟨_, _, rfl⟩ := oM hw
    exact ha
  · rw [Tr.get_set_ne _ h, Tr.get_map] at hw
    obtain ⟨y, hy, rfl⟩ := oM hw
    have := hs e he y hy
    cases y with
    | l k o => simp only [killL]; cases Nat.beq k d <;> rfl
    | s k n => simp only [killL]; cases Nat.beq k d <;> rfl
    | v _ => cases this
    | _ => rfl
def Frs (A : FAn) (s t : St) (g : St → Option St) : Prop := t.h = s.h ∧ xU A t ∧ ∀ (f : Nat → Nat) (h2 : AH), g (St.fr f h2 s) = some (St.fr f h2 t)
theorem fr_store {sv : SV} {k : Nat} {off : Nat} {v : List Sc} {s' : St} (h : storeAt s (.l k off) v some = some s') : s'.h = s.h ∧ s'.sl = s.sl ∧ ∀ (f : Nat → Nat) (h2 : AH), storeAt (St.fr f h2 s) (.l k off) (Sc.renL f v) some = some (St.fr f h2 s') := by
  unfold storeAt at h
  simp only at h
  obtain ⟨b, h1, k2⟩ := oB h
  obtain ⟨cs, rfl, k3⟩ := oB k2
  unfold putK at k3
  obtain ⟨g1, k4⟩ := gB.1 k3
  simp only [Tr.setT_eq] at k4
  cases k4
  refine ⟨rfl, rfl, fun f h2 => ?_⟩
  unfold storeAt
  show ((s.lo.map _).get k).bind _ = _
  rw [Tr.get_map, h1]
  simp only [Option.map_some, Option.bind_some]
  unfold putK
  rw [yu, yu, g1]
  simp only [guardB, cond_true, Tr.setT_eq, St.fr, Tr.map_set, Option.map_some, YV]
theorem fr_load {k off n : Nat} {l : List Sc} (h : loadAt s (.l k off) n some = some l) (f : Nat → Nat) (h2 : AH) : loadAt (St.fr f h2 s) (.l k off) n some = some (Sc.renL f l) := by
  unfold loadAt at h ⊢
  simp only at h ⊢
  obtain ⟨b, h1, h⟩ := oB h
  obtain ⟨cs, rfl, h⟩ := oB h
  show ((s.lo.map _).get k).bind _ = _
  rw [Tr.get_map, h1]
  exact VJ h
theorem fr_load1 {k off : Nat} {x : Sc} (h : load1 s (.l k off) some = some x) (f : Nat → Nat) (h2 : AH) : load1 (St.fr f h2 s) (.l k off) some = some (x.ren f) := by
  unfold load1 at h ⊢
  simp only at h ⊢
  obtain ⟨b, h1, k2⟩ := oB h
  obtain ⟨cs, rfl, k3⟩ := oB k2
  obtain ⟨y, h2', k4⟩ := oB k3
  cases k4
  show ((s.lo.map _).get k).bind _ = _
  rw [Tr.get_map, h1]
  simp only [Option.map_some, Option.bind_some, xn, List.getElem?_map, h2']
theorem fr_op {o : Oper} (ho : Vc A o = true) (hs : xU A s) (h : evOp P A ev o s some = some t) : Frs A s t (fun s => evOp P A ev o s some) := by
  unfold Vc at ho
  rw [Bool.and_eq_true_iff] at ho
  have ho := ho.2
  unfold Frs
  have hset : ∀ {v : SV}, (match o.dst with | some d => !(A.loc.contains d) | none => true) = true → xU A (setSl s o.dst v) := fun hd => locS_set (h := s.h) hs hd
  unfold evOp at h ⊢
  split at ho
  case h_1 e hop =>
    rw [hop] at h ⊢
    simp only [setK_eq, newLocalK_eq] at h ⊢
    obtain ⟨d, hd, h⟩ := oB h
    obtain ⟨z, hz, h⟩ := oB h
    obtain ⟨g1, h⟩ := gB.1 h
    rw [hd] at ho
    simp only at ho
    rw [ho, cond_true] at h
    cases h
    refine ⟨rfl, locS_new hs rfl, fun f h2 => ?_⟩
    simp only [hd, Option.bind_some, hz, g1, guardB, cond_true, ho, VC, wv hz, SV.ren]
  case h_2 e x hop =>
    rw [hop] at h ⊢
    simp only [setK_eq, newLocalK_eq] at h ⊢
    obtain ⟨d, hd, h⟩ := oB h
    obtain ⟨v, hv, h⟩ := oB h
    obtain ⟨g1, h⟩ := gB.1 h
    rw [hd] at ho
    simp only at ho
    rw [ho, cond_true] at h
    cases h
    refine ⟨rfl, locS_new hs rfl, fun f h2 => ?_⟩
    simp only [hd, Option.bind_some, WD, hv, Option.map_some, Yh, yu, g1, guardB, cond_true, ho, VC, SV.ren]
  case h_3 ty x y hop =>
    obtain ⟨hroot, hdst⟩ := Bool.and_eq_true_iff.1 ho
    obtain ⟨k, hk⟩ := Option.isSome_iff_exists.1 hroot
    rw [hop] at h ⊢
    simp only [setK_eq] at h ⊢
    obtain ⟨g1, h⟩ := gB.1 h
    obtain ⟨sv, h1, h⟩ := oB h
    obtain ⟨v, h2, h⟩ := oB h
    obtain ⟨g2, h⟩ := gB.1 h
    obtain ⟨s', h3, h⟩ := xo h
    cases h
    have hl : ∃ k' off, sv = .l k' off := by
      unfold onlyS onlyR at g2
      rw [hk] at g2
      simp only [Bool.and_eq_true] at g2
      cases sv <;> first | exact ⟨_, _, rfl⟩ | (exact absurd g2.2.2 (by simp))
    obtain ⟨k', off, rfl⟩ := hl
    obtain ⟨e1, e2, e3⟩ := fr_store (sv := .no) h3
    refine ⟨by simpa using e1, ?_, fun f h2' => ?_⟩
    · refine locS_set (s := s') (h := s'.h) (fun d hd w hw => hs d hd w (by rw [← e2]; exact hw)) hdst
    · rw [Zu, h1, WD, h2, g1]
      simp only [guardB, cond_true, Option.map_some, Option.bind_some, SV.ren, Yh, yu]
      rw [g2, cond_true]
      have e0 := xj (fun s' => some (setSl s' o.dst .no)) (St.fr f h2' s) (.l k' off) (Sc.renL f v.cells) some
      simp only [Option.bind_some] at e0
      rw [← e0, e3 f h2', Option.bind_some, xx]
      rfl
  case h_4 ty d hop =>
    obtain ⟨hloc, hdst⟩ := Bool.and_eq_true_iff.1 ho
    rw [hop] at h ⊢
    simp only [setK_eq] at h ⊢
    obtain ⟨g1, h⟩ := gB.1 h
    obtain ⟨sv, h1, h⟩ := oB h
    obtain ⟨g2, h⟩ := gB.1 h
    have hl : ∃ k' off, sv = .l k' off := by
      unfold onlyL at g2
      simp only [hloc, Bool.and_eq_true, Bool.not_true, Bool.false_or] at g2
      cases sv <;> first | exact ⟨_, _, rfl⟩ | (exact absurd g2.1 (by simp))
    obtain ⟨k', off, rfl⟩ := hl
    have go : ∀ (f : Nat → Nat) (h2 : AH), (onlyL A (.tmp d) (SV.l k' off) && onlyX A h2 (.tmp d) (SV.l k' off)) = true := by
      intro f h2
      unfold onlyX onlyB at g2 ⊢
      exact g2
    rcases cond_some.1 h with ⟨g3, h⟩ | ⟨g3, h⟩
    · obtain ⟨l, h2, h⟩ := yT h
      have h4 := yI (c := fun ys => some (setSl s o.dst (.v (.agg ys)))) h
      cases h4
      refine ⟨by simp, hset hdst, fun f hh => ?_⟩
      rw [Zu, h1, g1]
      simp only [guardB, cond_true, Option.map_some, Option.bind_some, SV.ren]
      rw [show (St.fr f hh s).h = hh from rfl, go f hh, g3]
      simp only [cond_true]
      have e0 := xM (fun l => asLeaves (yo P 8 ty) l fun ys => some (setSl (St.fr f hh s) o.dst (.v (.agg ys)))) (St.fr f hh s) (.l k' off) (P.cellsOf ty) some
      simp only [Option.bind_some] at e0
      rw [← e0, fr_load h2 f hh, Option.bind_some, wP h, xx]
      rfl
    · obtain ⟨l, h2, h⟩ := xw h
      have h4 := yU (c := fun y => some (setSl s o.dst (.v (.sc y)))) h
      cases h4
      refine ⟨by simp, hset hdst, fun f hh => ?_⟩
      rw [Zu, h1, g1]
      simp only [guardB, cond_true, Option.map_some, Option.bind_some, SV.ren]
      rw [show (St.fr f hh s).h = hh from rfl, go f hh, g3]
      simp only [cond_true, cond_false]
      have e0 := wh (fun x => asLeaf ((yo P 8 ty).getD 0 .any) x fun y => some (setSl (St.fr f hh s) o.dst (.v (.sc y)))) (St.fr f hh s) (.l k' off) some
      simp only [Option.bind_some] at e0
      rw [← e0, fr_load1 h2 f hh, Option.bind_some, ZF h, xx]
      rfl
  case h_5 x hop =>
    rw [hop] at h ⊢
    simp only [setK_eq] at h ⊢
    obtain ⟨v, hv, h⟩ := oB h
    cases h
    refine ⟨by simp, hset ho, fun f h2 => ?_⟩
    rw [Zu, hv, xx]; rfl
  case h_6 x hop =>
    rw [hop] at h ⊢
    simp only [setK_eq] at h ⊢
    obtain ⟨v, hv, h⟩ := oB h
    cases h
    refine ⟨by simp, hset ho, fun f h2 => ?_⟩
    rw [Zu, hv, xx]; rfl
  case h_7 ty x i hop =>
    rw [hop] at h ⊢
    simp only [setK_eq] at h ⊢
    split at h
    case h_2 => cases h
    obtain ⟨fd, h1, h⟩ := oB h
    obtain ⟨g1, h⟩ := gB.1 h
    obtain ⟨sv, h2, h⟩ := oB h
    simp only [h1, Option.bind_some, Zu, h2, g1, Option.map_some, guardB, cond_true]
    unfold addAt at h ⊢
    cases sv <;> first | (cases h; done) | skip
    · rename_i a
      cases a <;> first | (cases h; done) | skip
      rename_i c
      cases c <;> first | (cases h; done) | skip
      cases h
      refine ⟨by simp, ?_, fun f h2 => by rw [xx]; rfl⟩
      rcases Bool.or_eq_true_iff.1 ho with ho | ho
      · exact hset ho
      · have := WS hs ho h2; cases this
    · cases h
      exact ⟨by simp, Qm hs rfl, fun f h2 => by rw [xx]; rfl⟩
  case h_8 ty x i hop =>
    rw [hop] at h ⊢
    simp only [setK_eq] at h ⊢
    split at h
    · rename_i e hu
      obtain ⟨g1, h⟩ := gB.1 h
      obtain ⟨xv, h1, h⟩ := oB h
      obtain ⟨y, rfl, h⟩ := asSc_some.1 h
      obtain ⟨id, off, len, rfl, h⟩ := asS_some.1 h
      obtain ⟨iv, h2, h⟩ := oB h
      have hi : ∀ {R : Type} {c : Nat → Option R} {r : R}, idxI iv len c = some r → ∃ n, c n = some r ∧ ∀ (f : Nat → Nat) {S : Type} (c' : Nat → Option S), idxI (iv.ren f) len c' = c' n := by
        intro R c r h
        unfold idxI at h
        split at h
        · obtain ⟨g, h⟩ := gB.1 h
          exact ⟨_, h, fun f S c' => by simp only [AV.ren, Sc.ren, idxI, g, guardB, cond_true]⟩
        · cases h
      obtain ⟨n, h', hn⟩ := hi h
      clear h hi
      have h := h'
      clear h'
      cases h
      refine ⟨by simp, ?_, fun f h2' => ?_⟩
      · rcases Bool.or_eq_true_iff.1 ho with ho | ho
        · exact hset ho
        · unfold evV at h1
          obtain ⟨sv, k1, k2⟩ := oB h1
          have := WS hs ho k1
          cases sv <;> first | (cases this; done) | cases k2
      have e : AV.ren f (.sc (.sl id off len)) = .sc (.sl (f id) off len) := rfl
      rw [WD, h1, WD, h2, g1]
      simp only [Option.map_some, Option.bind_some, e, asSc, asS, guardB, cond_true]
      rw [hn, xx]; rfl
    · rename_i m e hu
      replace h := gB.1 h
      obtain ⟨g1, h⟩ := h
      replace h := oB h
      obtain ⟨sv, h1, h⟩ := h
      replace h := oB h
      obtain ⟨iv, h2, h⟩ := h
      have hi : ∀ {R : Type} {c : Nat → Option R} {r : R}, idxI iv m c = some r → ∃ n, c n = some r ∧ ∀ (f : Nat → Nat) {S : Type} (c' : Nat → Option S), idxI (iv.ren f) m c' = c' n := by
        intro R c r h
        unfold idxI at h
        split at h
        · obtain ⟨g, h⟩ := gB.1 h
          exact ⟨_, h, fun f S c' => by simp only [AV.ren, Sc.ren, idxI, g, guardB, cond_true]⟩
        · cases h
      obtain ⟨n, h', hn⟩ := hi h
      clear h hi
      have h := h'
      clear h'
      simp only [Zu, h1, WD, h2, g1, Option.map_some, Option.bind_some, guardB, cond_true]
      simp only [hn]
      unfold addAt at h ⊢
      cases sv <;> first | (cases h; done) | skip
      · rename_i a
        cases a <;> first | (cases h; done) | skip
        rename_i c
        cases c <;> first | (cases h; done) | skip
        cases h
        refine ⟨by simp, ?_, fun f h2 => by rw [xx]; rfl⟩
        rcases Bool.or_eq_true_iff.1 ho with ho | ho
        · exact hset ho
        · have := WS hs ho h1; cases this
      · cases h
        exact ⟨by simp, Qm hs rfl, fun f h2 => by rw [xx]; rfl⟩
    · cases h
  case h_9 => cases ho
variable {P : Program} {A : FAn} {ev : Ev} {B : Nat} {Ie : List Loc} {he : AH} {we : World} {I : List Loc} {lam : Nat → Nat} {s t : St} {a : Act} {w : World} {ops : Array Oper}
def ZT (A : FAn) (o : Oper) : Bool := match o.op with
  | .call { callee := .value (.func n), args, .. } => (A.fr.any fun p => Nat.beq p.1 n && Nat.beq p.2 args.size) && !(A.iso.contains n)
  | _ => false
def zU (A : FAn) (o : Oper) : Bool := o.guard.isNone && (ZT A o || match o.op with
  | .move _ | .assign _ | .makeSlice _ _ _ | .load _ _ | .store _ _ _ | .fieldAddr _ _ _ => true
  | .call { callee := .builtin .len, .. } => true
  | .alloc _ | .buildSlice _ _ _ => (match o.dst with | some d => !(A.loc.contains d) | none => false)
  | _ => false)
def wl (o : Oper) : Bool := match o.op with | .makeSlice _ _ _ | .alloc _ | .buildSlice _ _ _ => true | _ => false
def isSt (o : Oper) : Bool := match o.op with | .store _ _ _ => true | _ => false
def twin (A : FAn) (ops : Array Oper) (x y : Oper) : Bool := Vb A ops x y || (wl x && wl y && x.apart ops y) || (wl x && isSt y && x.apart ops y) || (ZT A x && wl y && x.apart ops y)
def dOk (A : FAn) (ops : Array Oper) : Bool := dOk0 A ops || (ops.toList.all (zU A) && wq (twin A ops) A ops (QU ops.toList []) 0 ops.toList)
theorem xi {o : Oper} (h : zU A o = true) : o.guard = none ∧ (ZT A o = true ∨ (∃ x, o.op = .move x ∨ o.op = .assign x) ∨ wl o = true ∨ (∃ t x, o.op = .load t x) ∨ (∃ t x y, o.op = .store t x y) ∨ (∃ t x i, o.op = .fieldAddr t x i) ∨ ∃ args ts, o.op = .call { callee := .builtin .len, args := args, argTypes := ts }) := by
  unfold zU at h
  rw [Bool.and_eq_true_iff, Bool.or_eq_true] at h
  refine ⟨by simpa using h.1, ?_⟩
  rcases h.2 with h | h
  · exact .inl h
  right
  split at h
  · rename_i x ho; exact .inl ⟨x, .inl ho⟩
  · rename_i x ho; exact .inl ⟨x, .inr ho⟩
  · rename_i ho; right; left; unfold wl; rw [ho]
  · rename_i ty x ho; exact .inr (.inr (.inl ⟨ty, x, ho⟩))
  · rename_i ty x y ho; exact .inr (.inr (.inr (.inl ⟨ty, x, y, ho⟩)))
  · rename_i ty x i ho; exact .inr (.inr (.inr (.inr (.inl ⟨ty, x, i, ho⟩))))
  · rename_i args ts ho; exact .inr (.inr (.inr (.inr (.inr ⟨args, ts, ho⟩))))
  · rename_i ho; right; left; unfold wl; rw [ho]
  · rename_i ho; right; left; unfold wl; rw [ho]
  · cases h
theorem xb {o : Oper} (hg : o.guard = none) (s : St) : zf P A ev ops o s = evOp P A ev o s some := by unfold zf; rw [hg]
theorem Tc {o : Oper} (h : ZT A o = true) : ∃ n args ts, o.op = .call { callee := .value (.func n), args := args, argTypes := ts } ∧ (A.fr.any fun p => Nat.beq p.1 n && Nat.beq p.2 args.size) = true ∧ A.iso.contains n = false := by
  unfold ZT at h
  split at h
  · rename_i n args ts ho
    rw [Bool.and_eq_true_iff] at h
    exact ⟨n, args, ts, ho, h.1, by simpa using h.2⟩
  · cases h
theorem simple_call {o : Oper} (h : zU A o = true) (hf : ZT A o ≠ true) : WA o.op = false := by
  obtain ⟨_, h | ⟨x, h | h⟩ | h | ⟨t, x, h⟩ | ⟨t, x, y, h⟩ | ⟨t, x, i, h⟩ | ⟨a, t, h⟩⟩ := xi h
  · exact absurd h hf
  · rw [h]; rfl
  · rw [h]; rfl
  · unfold wl at h; split at h <;> first | (rename_i h'; rw [h']; rfl) | cases h
  · rw [h]; rfl
  · rw [h]; rfl
  · rw [h]; rfl
  · rw [h]; rfl
theorem ZH {o : Oper} (h : zU A o = true) (ho : (∃ e, o.op = .alloc e) ∨ ∃ t n ps, o.op = .buildSlice t n ps) : ∃ d, o.dst = some d ∧ A.loc.contains d = false := by
  unfold zU at h
  rw [Bool.and_eq_true_iff] at h
  have hf : ZT A o = false := by unfold ZT; rcases ho with ⟨e, ho⟩ | ⟨t, n, ps, ho⟩ <;> rw [ho]
  have h := h.2
  rw [hf, Bool.false_or] at h
  cases hd : o.dst with
  | none => rcases ho with ⟨e, ho⟩ | ⟨t, n, ps, ho⟩ <;> rw [ho, hd] at h <;> cases h
  | some d => rcases ho with ⟨e, ho⟩ | ⟨t, n, ps, ho⟩ <;> rw [ho, hd] at h <;> exact ⟨d, rfl, by simpa using h⟩
theorem TT {o : Oper} (hg : o.guard = none) {x : Operand} (ho : o.op = .move x ∨ o.op = .assign x) (s : St) : zf P A ev ops o s = (evA s x).bind fun v => some (setSl s o.dst v) := by
  unfold zf
  rw [hg]
  unfold evOp
  rcases ho with ho | ho <;> rw [ho] <;> simp only [setK_eq]
theorem SV.ren_id (v : SV) : v.ren (fun i => i) = v := by
  cases v with
  | v a => rw [SV.ren, AV.ren_id]
  | t vs => rw [SV.ren, AV.renL_id]
  | _ => rfl
theorem AO.ren_id (o : AO) : o.ren (fun i => i) = o := by
  cases o with
  | row w e cs => rw [AO.ren, Sc.renL_id]
  | box e cs => rw [AO.ren, Sc.renL_id]
  | dead => rfl
  | loop l => rw [AO.ren, Tr.map_id' fun i v _ => SV.ren_id v]
theorem TD {f : Nat → Nat} {s s2 : St} : ∀ {ps : List (Nat × Operand)}, (∀ y ∈ ps, evV s2 y.2 = (evV s y.2).map (AV.ren f)) → evParts s2 ps = (evParts s ps).map fun vs => vs.map fun p => (p.1, p.2.ren f)
  | [], _ => rfl
  | (i, x) :: r, h => by
    simp only [evParts]
    rw [h (i, x) (List.mem_cons_self ..), TD fun y hy => h y (List.mem_cons_of_mem _ hy)]
    cases evV s x with
    | none => rfl
    | some v => cases evParts s r <;> rfl
theorem fill_ren {f : Nat → Nat} {pl : Nat → Option (Nat × Nat)} : ∀ {vs : List (Nat × AV)} {c : List Sc}, fillA pl (Sc.renL f c) (vs.map fun p => (p.1, p.2.ren f)) = (fillA pl c vs).map (Sc.renL f)
  | [], c => rfl
  | (i, v) :: r, c => by
    simp only [fillA, List.map_cons]
    cases pl i with
    | none => rfl
    | some p =>
      simp only [Option.bind_some, Yh, yu]
      cases Nat.beq v.cells.length p.2 with
      | false => rfl
      | true =>
        simp only [guardB, cond_true]
        have e : put (Sc.renL f c) p.1 (Sc.renL f v.cells) = (put c p.1 v.cells).map (Sc.renL f) := by
          unfold put
          rw [yu, yu]
          cases decide (p.1 + v.cells.length ≤ c.length) with
          | false => rfl
          | true => simp only [guardB, cond_true, Option.map_some, YV]
        rw [e]
        cases put c p.1 v.cells with
        | none => rfl
        | some c2 => simp only [Option.map_some, Option.bind_some]; exact fill_ren
theorem xL {o : Oper} (hs : zU A o = true) (hm : wl o = true) {s t : St} (h : zf P A ev ops o s = some t) :
    ∃ (O : AO) (v : Nat → SV), (∀ f n, (v n).ren f = v (f n)) ∧ t = setSl { s with h := s.h ++ [O] } o.dst (v s.h.length) ∧
      ∀ (f : Nat → Nat) (s2 : St), (∀ y ∈ o.op.operands, evV s2 y = (evV s y).map (AV.ren f)) → zf P A ev ops o s2 = some (setSl { s2 with h := s2.h ++ [O.ren f] } o.dst (v s2.h.length)) := by
  have hg := (xi hs).1
  rw [xb hg] at h
  unfold wl at hm
  split at hm
  · rename_i ty lo mo ho
    unfold evOp at h
    rw [ho] at h
    simp only [setK_eq] at h
    obtain ⟨e, he', h⟩ := oB h
    obtain ⟨z, hz, h⟩ := oB h
    obtain ⟨lv, hl, h1⟩ := oB h
    obtain ⟨mv, hmv, h2⟩ := oB h1
    clear h h1
    have h := h2
    clear h2
    split at h
    · rename_i l m
      obtain ⟨hgd, h⟩ := gB.1 h
      cases h
      refine ⟨.row true e (rep l.toNat z), fun n => .v (.sc (.sl n 0 l.toNat)), fun f n => rfl, rfl, fun f s2 g => ?_⟩
      rw [xb hg]
      unfold evOp
      rw [ho]
      simp only [setK_eq, he', hz, Option.bind_some]
      rw [g lo (by rw [ho]; simp [Op.operands]), g mo (by rw [ho]; simp [Op.operands]), hl, hmv]
      simp only [Option.bind_some, Option.map_some, AV.ren, Sc.ren, hgd, guardB, cond_true, AO.ren, Tk (wv hz)]
    · cases h
  · rename_i e ho
    obtain ⟨d, hd, hloc⟩ := ZH hs (.inl ⟨e, ho⟩)
    unfold evOp at h
    rw [ho] at h
    simp only [setK_eq, hd, Option.bind_some] at h
    obtain ⟨z, hz, h⟩ := oB h
    obtain ⟨hgd, h⟩ := gB.1 h
    rw [hloc, cond_false] at h
    cases h
    refine ⟨.box e z, fun n => .v (.sc (.ptr n 0)), fun f n => rfl, by rw [hd], fun f s2 _ => ?_⟩
    rw [xb hg]
    unfold evOp
    rw [ho]
    simp only [setK_eq, hd, Option.bind_some, hz, hgd, guardB, cond_true, hloc, cond_false, AO.ren, wv hz]
  · rename_i ty n ps ho
    obtain ⟨d, hd, hloc⟩ := ZH hs (.inr ⟨ty, n, ps, ho⟩)
    unfold evOp at h
    rw [ho] at h
    simp only [setK_eq, hd, Option.bind_some] at h
    obtain ⟨e, he', h⟩ := oB h
    obtain ⟨z, hz, h⟩ := oB h
    obtain ⟨hgd, h⟩ := gB.1 h
    obtain ⟨vs, hvs, h⟩ := oB h
    obtain ⟨cs, hcs, h⟩ := oB h
    rw [hloc, cond_false] at h
    cases h
    refine ⟨.row true e cs, fun m => .v (.sc (.sl m 0 n)), fun f m => rfl, by rw [hd], fun f s2 g => ?_⟩
    rw [xb hg]
    unfold evOp
    rw [ho]
    have hp := TD (f := f) (s := s) (s2 := s2) (ps := ps.toList) fun y hy => g y.2 (by
      rw [ho]; simp only [Op.operands, List.mem_toArray, List.mem_map]; exact ⟨y, hy, rfl⟩)
    have hfl := fill_ren (f := f) (pl := fun i => some (i * P.cellsOf e, P.cellsOf e)) (vs := vs) (c := rep n z)
    rw [Tk (wv hz), hcs] at hfl
    simp only [setK_eq, hd, Option.bind_some, he', hz, hgd, guardB, cond_true, hp, hvs, Option.map_some, hfl, hloc, cond_false, AO.ren]
  · cases hm
theorem UK {t : TypeId} {v : AV} {R : Type} {c : AV → Option R} {r : R} (h : typed1 P t v c = some r) : ∃ v', c v' = some r ∧ ∀ (f : Nat → Nat) {S : Type} (d : AV → Option S), typed1 P t (v.ren f) d = d (v'.ren f) := by
  unfold typed1 at h ⊢
  rcases cond_some.1 h with ⟨g, h⟩ | ⟨g, h⟩
  · cases v with
    | sc x => cases h
    | agg l =>
      simp only [asAgg] at h
      have h4 := yI (c := fun ys => c (.agg ys)) h
      refine ⟨_, h4, fun f S d => ?_⟩
      rw [g, cond_true]
      simp only [AV.ren, asAgg]
      rw [wP h]
  · cases v with
    | agg l => cases h
    | sc x =>
      simp only [asSc] at h
      have h4 := yU (c := fun y => c (.sc y)) h
      refine ⟨_, h4, fun f S d => ?_⟩
      rw [g, cond_false]
      simp only [AV.ren, asSc]
      rw [ZF h]
theorem WT : ∀ {ts : List TypeId} {l : List AV} {R : Type} {c : List AV → Option R} {r : R}, typedAll P ts l c = some r → ∃ l', c l' = some r ∧ ∀ (f : Nat → Nat) {S : Type} (d : List AV → Option S), typedAll P ts (l.map (AV.ren f)) d = d (l'.map (AV.ren f))
  | [], l, R, c, r, h => by
    simp only [typedAll] at h
    obtain ⟨rfl, h⟩ := asN_some.1 h
    exact ⟨[], h, fun f S d => rfl⟩
  | t :: ts, l, R, c, r, h => by
    simp only [typedAll] at h
    replace h := asC_some.1 h
    obtain ⟨x, xs, rfl, h⟩ := h
    obtain ⟨v', h1, k1⟩ := UK h
    obtain ⟨l', h2, k2⟩ := WT h1
    refine ⟨v' :: l', h2, fun f S d => ?_⟩
    simp only [typedAll, List.map_cons, asC]
    rw [k1, k2]
theorem typed_ren {t : TypeId} {vs : List AV} {R : Type} {c : SV → Option R} {r : R} (h : typed P t vs c = some r) : ∃ v, c v = some r ∧ ∀ (f : Nat → Nat) {S : Type} (d : SV → Option S), typed P t (vs.map (AV.ren f)) d = d (v.ren f) := by
  unfold typed at h ⊢
  split at h
  · obtain ⟨l', h1, k1⟩ := WT h
    obtain ⟨g, h1⟩ := gB.1 h1
    refine ⟨_, h1, fun f S d => ?_⟩
    rw [k1, List.length_map, g]
    rfl
  · replace h := asC_some.1 h
    obtain ⟨x, xs, rfl, h⟩ := h
    replace h := asN_some.1 h
    obtain ⟨rfl, h⟩ := h
    obtain ⟨v', h1, k1⟩ := UK h
    refine ⟨_, h1, fun f S d => ?_⟩
    simp only [List.map_cons, List.map_nil, asC, asN]
    rw [k1]
    rfl
theorem evVs_ren {f : Nat → Nat} {s s2 : St} : ∀ {ys : List Operand}, (∀ y ∈ ys, evV s2 y = (evV s y).map (AV.ren f)) → evVs s2 ys = (evVs s ys).map (List.map (AV.ren f))
  | [], _ => rfl
  | y :: ys, h => by
    simp only [evVs]
    rw [h y (List.mem_cons_self ..), evVs_ren fun z hz => h z (List.mem_cons_of_mem _ hz)]
    cases evV s y with
    | none => rfl
    | some v => cases evVs s ys <;> rfl
theorem evVs_len {s : St} : ∀ {ys : List Operand} {as : List AV}, evVs s ys = some as → as.length = ys.length
  | [], as, h => by cases h; rfl
  | y :: ys, as, h => by
    simp only [evVs] at h
    obtain ⟨v, _, h⟩ := oB h
    obtain ⟨vs, h2, h⟩ := oB h
    cases h
    simp only [List.length_cons, evVs_len h2]
theorem Tj (hro : xk A ev) {o : Oper} (hg : o.guard = none) (hf : ZT A o = true) {s t : St} (h : zf P A ev ops o s = some t) :
    ∃ v, t = setSl s o.dst v ∧ ∀ (f : Nat → Nat) (s2 : St), (∀ y ∈ o.op.operands, evV s2 y = (evV s y).map (AV.ren f)) → zf P A ev ops o s2 = some (setSl s2 o.dst (v.ren f)) := by
  obtain ⟨n, args, ts, ho, hfr, hiso⟩ := Tc hf
  rw [xb hg, Zf ho] at h
  obtain ⟨⟨v, h'⟩, hv, h⟩ := oB h
  cases h
  unfold ZI at hv
  simp only [evV, evA, Option.bind_some, SV.val, asSc, asF, spread, List.take_nil, List.drop_nil, List.nil_append, List.append_nil] at hv
  obtain ⟨as, has, hv⟩ := oB hv
  unfold callK at hv
  simp only [hiso, Bool.false_and, cond_false] at hv
  obtain ⟨⟨rs, h1⟩, hev, hv⟩ := oB hv
  obtain ⟨v', hv', kv⟩ := typed_ren hv
  cases hv'
  obtain ⟨e1, e2⟩ := hro.2 n args.size hfr as s.h rs _ (by rw [evVs_len has]; simp) hev
  subst e1
  refine ⟨v, rfl, fun f s2 g => ?_⟩
  rw [xb hg, Zf ho]
  unfold ZI
  simp only [evV, evA, Option.bind_some, SV.val, asSc, asF, spread, List.take_nil, List.drop_nil, List.nil_append, List.append_nil]
  have hvs := evVs_ren (f := f) (s := s) (s2 := s2) (ys := args.toList) fun y hy => g y (by
    rw [ho]; simp only [Op.operands, Call.operands]; simp only [Array.mem_append, Array.mem_toList_iff] at hy ⊢; first | exact .inr hy | exact hy)
  rw [hvs, has]
  simp only [Option.map_some, Option.bind_some]
  unfold callK
  simp only [hiso, Bool.false_and, cond_false]
  rw [e2 f s2.h, Option.bind_some, kv]
  rfl
theorem one_ren (hro : xk A ev) {o : Oper} (ho : zU A o = true) {q : Nat} (hq : q + 1 < s.h.length) (h : zf P A ev ops o s = some t) : zf P A ev ops o (St.ren q s) = some (St.ren q t) ∧ s.h.length ≤ t.h.length := by
  obtain ⟨hg, hk | ⟨x, hk⟩ | hk | ⟨t, x, hk⟩ | ⟨t, x, y, hk⟩ | ⟨t, x, i, hk⟩ | ⟨a, t, hk⟩⟩ := xi ho
  · obtain ⟨v, rfl, hall⟩ := Tj hro hg hk h
    rw [hall (tr q) (St.ren q s) fun y _ => Tb q s y, yC]
    exact ⟨rfl, by simp⟩
  · rw [TT hg hk] at h ⊢
    obtain ⟨v, hv, h⟩ := oB h
    cases h
    rw [ZP, hv, yC]
    exact ⟨rfl, by simp⟩
  · obtain ⟨O, v, hv, ht, hall⟩ := xL ho hk h
    rw [hall (tr q) (St.ren q s) fun y _ => Tb q s y, ht, yC, push_ren hq, hv, tr_gt hq]
    rw [show (St.ren q s).h.length = s.h.length by simp [St.ren, xT]]
    exact ⟨rfl, by simp⟩
  · rw [xb hg] at h ⊢; exact op_ren_load hk hq h
  · rw [xb hg] at h ⊢; exact op_ren_store hk hq h
  · rw [xb hg] at h ⊢; exact WQ hk h
  · rw [xb hg] at h ⊢; exact UL hk h
theorem one_grow (hro : xk A ev) {o : Oper} (ho : zU A o = true) (h : zf P A ev ops o s = some t) : s.h.length ≤ t.h.length := by
  obtain ⟨hg, hk | ⟨x, hk⟩ | hk | ⟨t, x, hk⟩ | ⟨t, x, y, hk⟩ | ⟨t, x, i, hk⟩ | ⟨a, t, hk⟩⟩ := xi ho
  · obtain ⟨v, rfl, hall⟩ := Tj hro hg hk h
    simp
  · rw [TT hg hk] at h
    obtain ⟨v, hv, h⟩ := oB h
    cases h; simp
  · obtain ⟨O, v, hv, ht, hall⟩ := xL ho hk h
    rw [ht]; simp
  · rw [xb hg] at h; exact grow_load hk h
  · rw [xb hg] at h; exact grow_store hk h
  · rw [xb hg] at h; exact (WQ (q := 0) hk h).2
  · rw [xb hg] at h; exact (UL (q := 0) hk h).2
theorem UV (hro : xk A ev) (hall : ∀ (j : Nat) o, ops[j]? = some o → zU A o = true) {q : Nat} : ∀ (l : List Nat) {s t : St}, q + 1 < s.h.length → zS P A ev ops l s = some t → zS P A ev ops l (St.ren q s) = some (St.ren q t) ∧ s.h.length ≤ t.h.length
  | [], s, t, hq, h => by cases h; exact ⟨rfl, Nat.le_refl _⟩
  | i :: l, s, t, hq, h => by
    cases hi : ops[i]? with
    | none =>
      have e : ∀ u : St, zS P A ev ops (i :: l) u = zS P A ev ops l u := fun u => by simp [zS, hi]
      rw [e] at h ⊢
      exact UV hro hall l hq h
    | some o =>
      rw [yn hi] at h ⊢
      obtain ⟨s1, h1, h⟩ := oB h
      obtain ⟨e1, e2⟩ := one_ren hro (hall i o hi) hq h1
      have hq1 : q + 1 < s1.h.length := by omega
      obtain ⟨e3, e4⟩ := UV hro hall l hq1 h
      rw [e1]
      exact ⟨e3, by omega⟩
def RW (P : Program) (B : Nat) (s : St) : Prop := ∃ (Ie : List Loc) (he : AH) (we : World) (I : List Loc) (lam : Nat → Nat) (a : Act) (w : World), Rel P B Ie he we I lam s a w
theorem RW.wf (h : RW P B s) : Wf s := by
  obtain ⟨_, _, _, _, _, _, _, r⟩ := h
  exact r.wf
theorem rw_simple (hev : Zz P B ev) {o : Oper} (ho : zU A o = true) (hw : RW P B s) (h : zf P A ev ops o s = some t) : RW P B t := by
  obtain ⟨Ie, he, we, I, lam, a, w, r⟩ := hw
  rw [xb (xi ho).1] at h
  by_cases hf : ZT A o = true
  · obtain ⟨n, args, ts, hop, _, hiso⟩ := Tc hf
    rw [Zf hop] at h
    obtain ⟨⟨v, h'⟩, hv, h⟩ := oB h
    cases h
    unfold ZI at hv
    simp only [evV, evA, Option.bind_some, SV.val, asSc, asF, spread, List.take_nil, List.drop_nil, List.nil_append, List.append_nil] at hv
    obtain ⟨as, has, hv⟩ := oB hv
    unfold callK at hv
    simp only [hiso, Bool.false_and, cond_false] at hv
    obtain ⟨⟨rs, h1⟩, hev1, hv⟩ := oB hv
    obtain ⟨_, hc⟩ := hev.1 n _ _ _ _ hev1 I w _ (yA r has) r.hp (r.kp.size_B r.base)
    obtain ⟨e, w', _, hR, _⟩ := hc.2 [] (by simp [Fence.room, FW])
    cases e with
    | returned v0 =>
      obtain ⟨I', g1, g2, hk⟩ := hR
      have rr := r.call g2 hk
      obtain ⟨sv, hs, hsv⟩ := Zr (lam := lam) hv g1
      cases hs
      exact ⟨Ie, he, we, I', lam, a.put o.dst v0, w', rr.put o.dst hsv⟩
    | panicked c => exact hR.elim
    | outgrown => exact hR.elim
  · obtain ⟨v, w', I', lam', _, r'⟩ := op_sim r (simple_call ho hf) h
    exact ⟨Ie, he, we, I', lam', _, w', r'⟩
theorem ZW {s : St} {h : AH} {d : Option Tmp} {v : SV} {x : Operand} (hx : ∀ t, d = some t → x ≠ .tmp t) : evV (setSl { s with h := h } d v) x = evV s x := by rw [zR hx, wR]
theorem xc {x y : Oper} {t : Tmp} (h : t ∉ y.looksAt ops) {z : Operand} (hz : z ∈ y.op.operands) : z ≠ .tmp t := by
  rintro rfl
  exact h (List.mem_append_left _ (List.mem_filterMap.2 ⟨.tmp t, by simpa using hz, rfl⟩))
theorem evV_wf {s : St} (hw : Wf s) {q : Nat} (hq : s.h.length ≤ q) (x : Operand) : (evV s x).map (AV.ren (tr q)) = evV s x := by
  unfold evV
  cases x with
  | tmp d =>
    simp only [evA]
    cases hd : s.sl.get d with
    | none => rfl
    | some v =>
      have := hw.sl q hq d v hd
      cases v with
      | v a =>
        have e : a.ren (tr q) = a := by
          have h2 : SV.v (a.ren (tr q)) = SV.v a := this
          cases h2' : a.ren (tr q) with
          | sc x => rw [h2'] at h2; cases h2; rfl
          | agg l => rw [h2'] at h2; cases h2; rfl
        simp only [Option.bind_some, SV.val, Option.map_some, e]
      | _ => rfl
  | const v =>
    simp only [evA]
    cases hc : ofConst v with
    | none => rfl
    | some x => simp only [Option.bind_some, SV.val, Option.map_some, AV.ren, Zk hc]
  | func f => rfl
  | global g => rfl
theorem ZU {s s2 : St} {x : Operand} (h : evV s2 x = evV s x) : evV s2 x = (evV s x).map (AV.ren fun i => i) := by
  rw [h]
  cases evV s x with
  | none => rfl
  | some v => rw [Option.map_some, AV.ren_id]
theorem push_inj {s : St} {d : Option Tmp} {v w : SV} {O O' : AO} (h : setSl { s with h := s.h ++ [O] } d v = setSl { s with h := s.h ++ [O'] } d w) : O = O' := by
  have := congrArg St.h h
  simp only [zw] at this
  simpa using this
theorem swap_mk {x y : Oper} (sx : zU A x = true) (sy : zU A y = true) (mx : wl x = true) (my : wl y = true) (hap : x.apart ops y = true) (hw : Wf s) {s1 s2 : St}
    (h1 : zf P A ev ops x s = some s1) (h2 : zf P A ev ops y s1 = some s2) : ∃ t, zf P A ev ops y s = some t ∧ zf P A ev ops x t = some (St.ren s.h.length s2) := by
  obtain ⟨a1, a2, a3⟩ := Oper.apart_spec hap
  obtain ⟨Ox, vx, wx, rfl, ax⟩ := xL sx mx h1
  have hy0 : ∃ t, zf P A ev ops y s = some t := by
    obtain ⟨O, v, _, _, k⟩ := xL sy my h2
    exact ⟨_, k (fun i => i) s fun z hz => ZU (ZW fun t ht => xc (x := x) (a1 t ht) hz).symm⟩
  obtain ⟨t0, ht0⟩ := hy0
  obtain ⟨Oy, vy, wy, rfl, ay⟩ := xL sy my ht0
  have ox : Ox.ren (tr s.h.length) = Ox := by
    have := ax (tr s.h.length) s fun z _ => (evV_wf hw (Nat.le_refl _) z).symm
    rw [h1] at this
    exact (push_inj (Option.some.inj this)).symm
  have oy : Oy.ren (tr s.h.length) = Oy := by
    have := ay (tr s.h.length) s fun z _ => (evV_wf hw (Nat.le_refl _) z).symm
    rw [ht0] at this
    exact (push_inj (Option.some.inj this)).symm
  have e2 := ay (fun i => i) (setSl { s with h := s.h ++ [Ox] } x.dst (vx s.h.length)) fun z hz => ZU (ZW fun t ht => xc (x := x) (a1 t ht) hz)
  rw [AO.ren_id] at e2
  rw [e2] at h2
  cases h2
  refine ⟨_, ht0, ?_⟩
  rw [ax (fun i => i) _ fun z hz => ZU (ZW fun t ht => xc (x := y) (a3 t ht) hz), AO.ren_id]
  have hslots : s.sl.map (SV.ren (tr s.h.length)) = s.sl := Tr.map_id' fun i v hv => hw.sl _ (Nat.le_refl _) i v hv
  have hlos : s.lo.map (Option.map (Sc.renL (tr s.h.length))) = s.lo := Tr.map_id' fun i v hv => hw.lo _ (Nat.le_refl _) i v hv
  have hobjs : s.h.map (AO.ren (tr s.h.length)) = s.h := by
    apply List.ext_getElem?
    intro i
    rw [List.getElem?_map]
    cases hi : s.h[i]? with
    | none => rfl
    | some o => rw [Option.map_some, hw.h _ (Nat.le_refl _) o (List.mem_of_getElem? hi)]
  have tl : tr s.h.length s.h.length = s.h.length + 1 := by unfold tr; rw [if_pos rfl]
  have tl2 : tr s.h.length (s.h.length + 1) = s.h.length := by unfold tr; rw [if_neg (by omega), if_pos rfl]
  have lhs : ∀ (d e : Option Tmp) (u v : SV) (H1 H2 : AH), setSl { setSl { s with h := H1 } d u with h := H2 } e v = setSl (setSl { s with h := H2 } d u) e v := fun d e u v H1 H2 => by cases d <;> cases e <;> rfl
  have rhs : ∀ (d e : Option Tmp) (u v : SV) (H1 H2 : AH), St.ren s.h.length (setSl { setSl { s with h := H1 } d u with h := H2 } e v) = setSl (setSl (St.ren s.h.length { s with h := H2 }) d (u.ren (tr s.h.length))) e (v.ren (tr s.h.length)) := fun d e u v H1 H2 => by rw [lhs, yC, yC]
  have base : St.ren s.h.length { s with h := s.h ++ [Ox] ++ [Oy] } = { s with h := s.h ++ [Oy] ++ [Ox] } := by
    simp only [St.ren, hslots, hlos, sw_last, List.map_append, hobjs, List.map_cons, List.map_nil, ox, oy]
  rw [rhs, lhs]
  simp only [zw]
  rw [base]
  simp only [wx, wy, List.length_append, List.length_cons, List.length_nil, Nat.zero_add, tl, tl2]
  rw [zT (fun t ht => fun h => a2 t h ht)]
theorem swap_st {x y : Oper} (sx : zU A x = true) (sy : zU A y = true) (mx : wl x = true) (my : isSt y = true) (hap : x.apart ops y = true) (hw : RW P B s) {s1 s2 : St}
    (h1 : zf P A ev ops x s = some s1) (h2 : zf P A ev ops y s1 = some s2) : ∃ t, zf P A ev ops y s = some t ∧ zf P A ev ops x t = some s2 := by
  obtain ⟨a1, a2, a3⟩ := Oper.apart_spec hap
  obtain ⟨Ox, vx, wx, rfl, ax⟩ := xL sx mx h1
  have hg := (xi sy).1
  rw [xb hg] at h2 ⊢
  unfold isSt at my
  split at my
  case h_2 => cases my
  rename_i ty p v ho
  unfold evOp at h2 ⊢
  rw [ho] at h2 ⊢
  simp only [setK_eq] at h2 ⊢
  have ea : evA (setSl { s with h := s.h ++ [Ox] } x.dst (vx s.h.length)) p = evA s p := by
    rw [yH fun t ht => xc (x := x) (a1 t ht) (by rw [ho]; simp [Op.operands])]; cases p <;> rfl
  have ev' : evV (setSl { s with h := s.h ++ [Ox] } x.dst (vx s.h.length)) v = evV s v := ZW fun t ht => xc (x := x) (a1 t ht) (by rw [ho]; simp [Op.operands])
  rw [ea, ev'] at h2
  obtain ⟨g1, h2⟩ := gB.1 h2
  obtain ⟨sv, k1, h2⟩ := oB h2
  obtain ⟨av, k2, h2⟩ := oB h2
  obtain ⟨g2, h2⟩ := gB.1 h2
  obtain ⟨s', k3, h2⟩ := xo h2
  cases h2
  rw [g1, k1, k2, Option.bind_some, Option.bind_some, g2]
  simp only [guardB, cond_true]
  have key : ∃ u, storeAt s sv av.cells some = some u ∧ s' = setSl { u with h := u.h ++ [Ox] } x.dst (vx s.h.length) ∧ u.h.length = s.h.length ∧ u.sl = s.sl := by
    have e0 := VB (s := { s with h := s.h ++ [Ox] }) (d := x.dst) (x := vx s.h.length) (a := sv) (v := av.cells)
    rw [e0] at k3
    obtain ⟨u1, k4, rfl⟩ := oM k3
    have keep : ∀ {cs : List Sc} {off : Nat} {S : Type} {c : List Sc → Option S} {x : S}, putK cs off av.cells c = some x → ∃ l, (∀ {T : Type} (d : List Sc → Option T), putK cs off av.cells d = d l) ∧ c l = some x := by
      intro cs off S c x h
      unfold putK at h ⊢
      obtain ⟨h1, h2⟩ := gB.1 h
      exact ⟨_, fun d => by rw [h1]; rfl, h2⟩
    unfold storeAt at k4 ⊢
    split at k4
    · obtain ⟨b, q1, q2⟩ := oB k4
      obtain ⟨cs, rfl, q3⟩ := oB q2
      obtain ⟨l, q4, q5⟩ := keep q3
      rw [Tr.setT_eq] at q5
      cases q5
      refine ⟨{ s with lo := s.lo.set _ (some l) }, ?_, rfl, rfl, rfl⟩
      have q1' : s.lo.get _ = _ := q1
      simp only [q1', Option.bind_some, q4, Tr.setT_eq]
    · rename_i pp
      unfold asP at k4 ⊢
      split at k4
      case h_2 => cases k4
      rename_i id off _
      unfold stK at k4 ⊢
      obtain ⟨o, q1, q2⟩ := oB k4
      have hid : id < s.h.length := by
        obtain ⟨Ie, he, we, I, lam, a, w, r⟩ := hw
        have hr := zx r k1
        rw [← r.hp.len]
        obtain ⟨L, hL, _⟩ := hr
        exact (List.getElem?_eq_some_iff.1 hL).1
      have q1 : (s.h ++ [Ox])[id]? = some o := q1
      rw [List.getElem?_append_left hid] at q1
      have hset : ∀ o', (s.h ++ [Ox]).set id o' = s.h.set id o' ++ [Ox] := fun o' => by rw [List.set_append_left _ _ hid]
      simp only [q1, Option.bind_some]
      split at q2
      · obtain ⟨l, q4, q5⟩ := keep q2
        cases q5
        refine ⟨_, q4 _, ?_, by simp, rfl⟩
        rw [show ({ s with h := s.h ++ [Ox] } : St).h = s.h ++ [Ox] from rfl, hset]
      · obtain ⟨l, q4, q5⟩ := keep q2
        cases q5
        refine ⟨_, q4 _, ?_, by simp, rfl⟩
        rw [show ({ s with h := s.h ++ [Ox] } : St).h = s.h ++ [Ox] from rfl, hset]
      · cases q2
    · cases k4
  obtain ⟨u, k4, rfl, k5, k6⟩ := key
  have e0 := xj (fun s' => some (setSl s' y.dst .no)) s sv av.cells some
  simp only [Option.bind_some] at e0
  rw [← e0, k4, Option.bind_some]
  refine ⟨_, rfl, ?_⟩
  rw [ax (fun i => i) _ fun z hz => ZU (by
    rw [zR fun t ht => xc (x := y) (a3 t ht) hz]
    unfold evV evA
    rw [k6]), AO.ren_id]
  simp only [zw]
  rw [k5]
  have sw2 : ∀ (d e : Option Tmp) (p q : SV) (H : AH), (∀ t, d = some t → e ≠ some t) → setSl { setSl u d p with h := H } e q = setSl (setSl { u with h := H } e q) d p := fun d e p q H hne => by
    have : { setSl u d p with h := H } = setSl { u with h := H } d p := by cases d <;> rfl
    rw [this, zT (fun t ht => hne t ht)]
  rw [sw2 _ _ _ _ _ (fun t ht h => a2 t h ht)]
theorem swap_fr (hro : xk A ev) {x y : Oper} (sx : zU A x = true) (sy : zU A y = true) (fx : ZT A x = true) (my : wl y = true) (hap : x.apart ops y = true) {s1 s2 : St}
    (h1 : zf P A ev ops x s = some s1) (h2 : zf P A ev ops y s1 = some s2) : ∃ t, zf P A ev ops y s = some t ∧ zf P A ev ops x t = some s2 := by
  obtain ⟨a1, a2, a3⟩ := Oper.apart_spec hap
  obtain ⟨v, rfl, ax⟩ := Tj hro (xi sx).1 fx h1
  have hy0 : ∃ t, zf P A ev ops y s = some t := by
    obtain ⟨O, w, _, _, k⟩ := xL sy my h2
    exact ⟨_, k (fun i => i) s fun z hz => ZU (zR fun t ht => xc (x := x) (a1 t ht) hz).symm⟩
  obtain ⟨t0, ht0⟩ := hy0
  obtain ⟨Oy, vy, wy, rfl, ay⟩ := xL sy my ht0
  have e2 := ay (fun i => i) (setSl s x.dst v) fun z hz => ZU (zR fun t ht => xc (x := x) (a1 t ht) hz)
  rw [AO.ren_id] at e2
  rw [e2] at h2
  cases h2
  refine ⟨_, ht0, ?_⟩
  rw [ax (fun i => i) _ fun z hz => ZU (ZW fun t ht => xc (x := y) (a3 t ht) hz), SV.ren_id]
  have e : ∀ (d : Option Tmp), ({ setSl s d v with h := (setSl s d v).h ++ [Oy] } : St) = setSl { s with h := s.h ++ [Oy] } d v := fun d => by cases d <;> rfl
  rw [e, zw, zT (fun t ht => fun h => a2 t h ht)]
theorem bubbleT (hev : Zz P B ev) (hro : xk A ev) (hall : ∀ (j : Nat) o, ops[j]? = some o → zU A o = true) {n i : Nat} {o : Oper} (hi : ops[i]? = some o) {r2 : List Nat} {s' : St} : ∀ {r1 : List Nat} {s : St}, RW P B s → n ≤ s.h.length → (∀ k ∈ r1, ∃ x, ops[k]? = some x ∧ twin A ops x o = true) → zS P A ev ops (r1 ++ i :: r2) s = some s' →
    ∃ t s'', zf P A ev ops o s = some t ∧ zS P A ev ops (r1 ++ r2) t = some s'' ∧ Rn n s'' s'
  | [], s, _, _, _, h => by
    rw [List.nil_append, yn hi] at h
    obtain ⟨t, h1, h2⟩ := oB h
    exact ⟨t, s', h1, h2, .refl _⟩
  | k :: r1, s, hw, hn, hk, h => by
    obtain ⟨x, hx, hc⟩ := hk k (List.mem_cons_self ..)
    rw [List.cons_append, yn hx] at h
    obtain ⟨s1, h1, h⟩ := oB h
    have hw1 := rw_simple hev (hall k x hx) hw h1
    have hl1 := one_grow hro (hall k x hx) h1
    obtain ⟨t1, s'', ht1, h, hr⟩ := bubbleT (n := n) hev hro hall hi hw1 (Nat.le_trans hn hl1) (fun k hk' => hk k (List.mem_cons_of_mem _ hk')) h
    have notNew : ∀ z, zU A z = true → zi A z ≠ .new := fun z hz => by
      obtain ⟨_, hu | ⟨u, hu | hu⟩ | hu | ⟨t, u, hu⟩ | ⟨t, u, y, hu⟩ | ⟨t, u, i, hu⟩ | ⟨a, t, hu⟩⟩ := xi hz
      · obtain ⟨_, _, _, hu, _⟩ := Tc hu
        unfold zi; rw [hu]; intro hh; cases hh
      · unfold zi; rw [hu]; intro hh; cases hh
      · unfold zi; rw [hu]; intro hh; cases hh
      · unfold wl at hu
        split at hu
        · rename_i hz; unfold zi; rw [hz]; intro hh; cases hh
        · rename_i e ho
          obtain ⟨d, hd, hl⟩ := ZH hz (.inl ⟨e, ho⟩)
          unfold zi; rw [ho]; simp only [hd, hl, cond_false]; intro hh; cases hh
        · rename_i ty n ps ho
          obtain ⟨d, hd, hl⟩ := ZH hz (.inr ⟨ty, n, ps, ho⟩)
          unfold zi; rw [ho]; simp only [hd, hl, cond_false]; intro hh; cases hh
        · cases hu
      · intro hh; rcases Vv (A := A) (o := z) (by unfold Wb; rw [hu]) with h | h <;> rw [h] at hh <;> cases hh
      · unfold zi; rw [hu]; intro hh; cases hh
      · unfold zi; rw [hu]; intro hh; cases hh
      · unfold zi; rw [hu]; intro hh; cases hh
    unfold twin at hc
    rw [Bool.or_eq_true, Bool.or_eq_true, Bool.or_eq_true] at hc
    rcases hc with ((hc | hc) | hc) | hc
    · obtain ⟨t, ht, hxt⟩ := swap hro hc (fun hn => absurd hn (notNew x (hall k x hx))) (fun hn => absurd hn (notNew o (hall i o hi))) h1 ht1
      refine ⟨t, s'', ht, ?_, hr⟩
      rw [List.cons_append, yn hx, hxt]
      exact h
    · rw [Bool.and_eq_true, Bool.and_eq_true] at hc
      obtain ⟨⟨mx, my⟩, hap⟩ := hc
      obtain ⟨t, ht, hxt⟩ := swap_mk (hall k x hx) (hall i o hi) mx my hap hw.wf h1 ht1
      have hlen : s.h.length + 1 < t1.h.length := by
        obtain ⟨_, _, _, e1, _⟩ := xL (hall k x hx) mx h1
        obtain ⟨_, _, _, e2, _⟩ := xL (hall i o hi) my ht1
        rw [e2, e1]; simp
      obtain ⟨g1, g2⟩ := UV hro hall (r1 ++ r2) hlen h
      refine ⟨t, St.ren s.h.length s'', ht, ?_, .step _ hn (by omega) hr⟩
      rw [List.cons_append, yn hx, hxt]
      exact g1
    · rw [Bool.and_eq_true, Bool.and_eq_true] at hc
      obtain ⟨⟨mx, my⟩, hap⟩ := hc
      obtain ⟨t, ht, hxt⟩ := swap_st (hall k x hx) (hall i o hi) mx my hap hw h1 ht1
      refine ⟨t, s'', ht, ?_, hr⟩
      rw [List.cons_append, yn hx, hxt]
      exact h
    · rw [Bool.and_eq_true, Bool.and_eq_true] at hc
      obtain ⟨⟨mx, my⟩, hap⟩ := hc
      obtain ⟨t, ht, hxt⟩ := swap_fr hro (hall k x hx) (hall i o hi) mx my hap h1 ht1
      refine ⟨t, s'', ht, ?_, hr⟩
      rw [List.cons_append, yn hx, hxt]
      exact h
theorem any_in (hN : yj P = true) (hor : Zj P B A) (hev : Zz P B ev) (hro : xk A ev) (hd : dOk A ops = true) {ro : Option Nat} {Q : Exit → Act → World → Prop} (fuel : Nat) {L : Array Bool} {I : List Loc} {lam : Nat → Nat} {s : St} {a : Act} {w : World}
    (r : Rel P B Ie he we I lam s a w) (hfr : Zq A ops (rem ops L) s) (hL : wJ ops L) (hs : L.size = ops.size) (hf : (rem ops L).length ≤ fuel) {s' : St} (h : zS P A ev ops (rem ops L) s = some s') (hn : NextOk P B Ie he we a s' (Q .normal)) : wpAnyIn (FW ro) 0 P .any ops Q fuel L a w := by
  unfold dOk at hd
  rw [Bool.or_eq_true] at hd
  rcases hd with hd | hd
  · exact any_in0 hN hor hev hro hd fuel r hfr hL hs hf h hn
  rw [Bool.and_eq_true] at hd
  obtain ⟨hd1, hM⟩ := hd
  have hall : ∀ (j : Nat) o, ops[j]? = some o → zU A o = true := fun j o ho => List.all_eq_true.1 hd1 o (by rw [Array.mem_toList_iff]; exact Array.mem_of_getElem? ho)
  have noReady : ∀ {L : Array Bool}, wJ ops L → L.size = ops.size → Region.ready .any ops L = [] → rem ops L = [] := by
    intro L hL hs hr
    cases hrem : rem ops L with
    | nil => rfl
    | cons i r =>
      exfalso
      have hi : i ∈ rem ops L := by rw [hrem]; simp
      obtain ⟨hlt, hl⟩ := mem_rem.1 hi
      have ho : ops[i]? = some ops[i] := Array.getElem?_eq_getElem hlt
      have hready : i ∈ Region.ready .any ops L := mem_ready.2 ⟨_, ho, hl, fun e he => by
        obtain ⟨h1, _, _⟩ := wd hM (j := i) (o := ops[i]) (by simpa using ho)
        have hei := h1 e he
        rw [Nat.zero_add] at hei
        have : e ∉ rem ops L := by
          intro hm
          have hp := wg (ops := ops) L
          rw [hrem] at hp hm
          rcases List.mem_cons.1 hm with rfl | hm
          · omega
          · have := List.rel_of_pairwise_cons hp hm; omega
        have hnl : ¬ (e < ops.size ∧ L.getD e true = false) := fun h => this (mem_rem.2 h)
        have hes : e < ops.size := by omega
        have : L.getD e true = true := by cases hh : L.getD e true with
          | true => rfl
          | false => exact absurd ⟨hes, hh⟩ hnl
        simp only [Array.getD_eq_getD_getElem?] at this ⊢
        rw [Array.getElem?_eq_getElem (by omega)] at this ⊢
        exact this⟩
      rw [hr] at hready; simp at hready
  suffices key : ∀ (n : Nat), Ie.length ≤ n → ∀ (fuel : Nat) {L : Array Bool} {I : List Loc} {lam : Nat → Nat} {s : St} {a : Act} {w : World}, Rel P B Ie he we I lam s a w → n ≤ s.h.length → wJ ops L → L.size = ops.size → (rem ops L).length ≤ fuel → ∀ {s' : St}, zS P A ev ops (rem ops L) s = some s' →
      NextOk P B Ie he we a s' (Q .normal) → wpAnyIn (FW ro) 0 P .any ops Q fuel L a w by
    have hle : Ie.length ≤ s.h.length := by have := r.kp.pre.length_le; rw [r.hp.len] at this; exact this
    exact key s.h.length hle fuel r (Nat.le_refl _) hL hs hf h hn
  clear hfr hL hs hf h hn r s' s a w I lam L fuel
  intro n hIe fuel
  induction fuel with
  | zero =>
    intro L I lam s a w r _ hL hs hf s' h hn
    have hrem : rem ops L = [] := List.eq_nil_of_length_eq_zero (by omega)
    rw [hrem] at h; cases h
    refine ⟨?_, hn _ _ _ _ r rfl⟩
    cases hr : Region.ready .any ops L with
    | nil => rfl
    | cons i l =>
      have : i ∈ Region.ready .any ops L := by rw [hr]; simp
      obtain ⟨o, ho, hl, _⟩ := mem_ready.1 this
      have : i ∈ rem ops L := mem_rem.2 ⟨(Array.getElem?_eq_some_iff.1 ho).1, hl⟩
      rw [hrem] at this; simp at this
  | succ fuel ih =>
    intro L I lam s a w r hns hL hs hf s' h hn
    refine ⟨fun hr => ?_, fun i hi => ?_⟩
    · rw [noReady hL hs hr] at h; cases h
      exact hn _ _ _ _ r rfl
    · obtain ⟨o, ho, hl, hes⟩ := mem_ready.1 hi
      have hm : i ∈ rem ops L := mem_rem.2 ⟨(Array.getElem?_eq_some_iff.1 ho).1, hl⟩
      obtain ⟨r1, r2, hr⟩ := List.append_of_mem hm
      have hp := wg (ops := ops) L
      rw [hr] at hp
      obtain ⟨_, _, hp3⟩ := List.pairwise_append.1 hp
      have hcomm : ∀ k ∈ r1, ∃ x, ops[k]? = some x ∧ twin A ops x o = true := by
        intro k hk
        have hlt := hp3 k hk i (by simp)
        obtain ⟨_, _, h3⟩ := wd hM (j := i) (o := o) (by simpa using ho)
        rw [Nat.zero_add] at h3
        rcases h3 k hlt with h3 | h3
        · exfalso
          have hkl := Wr hM hL hs i o ho hes k h3
          have hkr : k ∈ rem ops L := by rw [hr]; simp [hk]
          have hkr2 := (mem_rem.1 hkr).2
          have hks := (mem_rem.1 hkr).1
          simp only [Array.getD_eq_getD_getElem?] at hkl hkr2
          rw [Array.getElem?_eq_getElem (by omega)] at hkl hkr2
          simp at hkl hkr2
          rw [hkl] at hkr2; cases hkr2
        · exact h3
      rw [hr] at h
      obtain ⟨t, s'', ht, h, hrn⟩ := bubbleT (n := n) hev hro hall ho ⟨_, _, _, _, _, _, _, r⟩ hns hcomm h
      have hlt := one_grow hro (hall i o ho) ht
      refine one_in hN hor hev r ho ht fun I' lam' a' w' r' hd' => ?_
      have hrs := rem_set hs hr
      refine ih r' (by omega) (US hL ho hes) (by simp [hs]) ?_ (s' := s'') (by rw [hrs]; exact h) fun I2 l2 a2 w2 r2 hd2 => ?_
      · rw [hrs]
        have hlen : (rem ops L).length = r1.length + (r2.length + 1) := by rw [hr]; simp
        simp only [List.length_append]
        omega
      · obtain ⟨I3, r3⟩ := hrn.rel hIe r2
        exact hn I3 l2 a2 w2 r3 (hd2.trans hd')
variable {P : Program} {A : FAn} {ev : Ev} {B : Nat} {Ie : List Loc} {he : AH} {we : World} {I : List Loc} {lam : Nat → Nat} {s : St} {a : Act} {w : World} {ops : Array Oper}
theorem UF : ∀ {l : List Oper}, flat l = true → ∀ o ∈ l, zi A o ≠ .loc ∧ zi A o ≠ .new
  | [], _, o, ho => by simp at ho
  | x :: l, h, o, ho => by
    simp only [flat, Bool.and_eq_true] at h
    rcases List.mem_cons.1 ho with rfl | ho
    · have h1 := h.1
      unfold zi
      split at h1
      · cases h1
      · cases h1
      · cases h1
      · cases h1
      · rename_i n1 n2 n3 n4
        split <;> first | (rename_i d _; cases A.loc.contains d <;> simp) | simp
        · split <;> simp
        all_goals (rename_i heq; first | exact absurd heq (n1 _) | exact absurd heq (n2 _ _) | exact absurd heq (n3 _ _ _) | exact absurd heq (n4 _ _ _))
    · exact UF h.2 o ho
theorem VF : ∀ {l : List Nat} {s s' : St}, (∀ i ∈ l, ∀ o, ops[i]? = some o → zi A o ≠ .loc ∧ zi A o ≠ .new) → zS P A ev ops l s = some s' → s'.lo = s.lo ∧ (∀ d, (∀ o ∈ ops.toList, o.dst ≠ some d) → s'.sl.get d = s.sl.get d) ∧ ∀ d, (∃ x, s.sl.get d = some x) → ∃ x, s'.sl.get d = some x
  | [], s, s', _, h => by cases h; exact ⟨rfl, fun _ _ => rfl, fun _ h => h⟩
  | i :: l, s, s', hc, h => by
    simp only [zS] at h
    cases hi : ops[i]? with
    | none => rw [hi] at h; exact VF (fun i hi => hc i (List.mem_cons_of_mem _ hi)) h
    | some o =>
      rw [hi] at h
      obtain ⟨s1, h1, h⟩ := oB h
      obtain ⟨e1, e2, e4⟩ := VF (fun i hi => hc i (List.mem_cons_of_mem _ hi)) h
      obtain ⟨⟨v, H, e3, _⟩, _⟩ := yy (hc i (List.mem_cons_self ..) o hi).1 (hc i (List.mem_cons_self ..) o hi).2 h1
      have key : ∀ d, (∃ x, s.sl.get d = some x) → ∃ x, s1.sl.get d = some x := by
        intro d hd
        rw [e3]
        cases hdst : o.dst with
        | none => exact hd
        | some d' =>
          simp only [setSl]
          by_cases e : d' = d
          · subst e; rw [Tr.get_set_self]; obtain ⟨x, hx⟩ := hd; exact ⟨v, by rw [hx]; rfl⟩
          · rw [Tr.get_set_ne _ e]; exact hd
      refine ⟨by rw [e1, e3]; simp, fun d hd => ?_, fun d hd => e4 d (key d hd)⟩
      rw [e2 d hd, e3]
      have : o.dst ≠ some d := hd o (by rw [Array.mem_toList_iff]; exact Array.mem_of_getElem? hi)
      cases hdst : o.dst with
      | none => rfl
      | some d' => simp only [setSl]; rw [Tr.get_set_ne _ (fun e => this (by rw [hdst, e]))]
theorem Uw : ∀ (l : List Oper) (s : St), (forget s l).lo = s.lo ∧ (forget s l).h = s.h ∧ ∀ (d : Nat) v, (forget s l).sl.get d = some v → (∃ x, s.sl.get d = some x) ∧ (v = .u ∨ (s.sl.get d = some v ∧ ∀ o ∈ l, o.dst ≠ some d))
  | [], s => ⟨rfl, rfl, fun d v h => ⟨⟨v, h⟩, .inr ⟨h, by simp⟩⟩⟩
  | o :: l, s => by
    obtain ⟨h1, h2, h4⟩ := Uw l (setSl s o.dst .u)
    refine ⟨by simp only [forget, h1, ww], by simp only [forget, h2, zw], fun d v hv => ?_⟩
    obtain ⟨⟨x, hx⟩, h4⟩ := h4 d v hv
    have hex : ∃ x, s.sl.get d = some x := by
      cases hd : o.dst with
      | none => rw [hd] at hx; exact ⟨x, hx⟩
      | some d' =>
        rw [hd] at hx
        simp only [setSl] at hx
        by_cases e : d' = d
        · subst e; rw [Tr.get_set_self] at hx; obtain ⟨y, hy, _⟩ := oM hx; exact ⟨y, hy⟩
        · rw [Tr.get_set_ne _ e] at hx; exact ⟨x, hx⟩
    refine ⟨hex, ?_⟩
    rcases h4 with h | ⟨h, h5⟩
    · exact .inl h
    · cases hd : o.dst with
      | none => rw [hd] at h; refine .inr ⟨h, fun o' ho' => ?_⟩; rcases List.mem_cons.1 ho' with rfl | ho'; simp [hd]; exact h5 o' ho'
      | some d' =>
        rw [hd] at h
        by_cases e : d' = d
        · subst e
          simp only [setSl, Tr.get_set_self] at h
          obtain ⟨y, _, hy⟩ := oM h
          exact .inl hy.symm
        · simp only [setSl, Tr.get_set_ne _ e] at h
          refine .inr ⟨h, fun o' ho' => ?_⟩
          rcases List.mem_cons.1 ho' with rfl | ho'
          · rw [hd]; simpa using e
          · exact h5 o' ho'
theorem Rel.loose (r : Rel P B Ie he we I lam s a w) {s' : St} (hs : ∀ (d : Nat) v, s'.sl.get d = some v → (∃ x, s.sl.get d = some x) ∧ (v = .u ∨ s.sl.get d = some v)) (hlo : ∀ (k : Nat) cs, s'.lo.get k = some (some cs) → s.lo.get k = some (some cs)) (hh : s'.h = s.h) :
    Rel P B Ie he we I lam s' a w := by
  refine ⟨fun i v hv => ?_, ⟨fun k cs hk => ?_, fun k k' cs cs' h1 h2 => r.lo.apart k k' cs cs' (hlo _ _ h1) (hlo _ _ h2)⟩, by rw [hh]; exact r.hp, by rw [hh]; exact r.kp, r.base, r.df⟩
  · obtain ⟨⟨x, hx⟩, h⟩ := hs i v hv
    obtain ⟨y, hy, hr⟩ := r.tm i x hx
    rcases h with rfl | h
    · exact ⟨y, hy, trivial⟩
    · exact r.tm i v h
  · rw [hh]; exact r.lo.cells k cs (hlo k cs hk)
theorem Tz {R : Type} {x : R} {full : St} {c : St → Option R} : ∀ {spec : List (Tmp × TypeId)} {vs : List AV} {s0 : St}, Yr full spec = some vs → Yy P spec vs s0 c = some x → (∀ (d : Nat) v, s0.sl.get d = some v → (∃ x, full.sl.get d = some x) ∧ (v = .u ∨ full.sl.get d = some v)) →
    ∃ s1, c s1 = some x ∧ s1.lo = s0.lo ∧ s1.h = s0.h ∧ ∀ (d : Nat) v, s1.sl.get d = some v → (∃ x, full.sl.get d = some x) ∧ (v = .u ∨ full.sl.get d = some v)
  | [], vs, s0, hp, h, hs => by
    simp only [Yr] at hp; cases hp
    simp only [Yy] at h
    exact ⟨s0, (asN_some.1 h).2, rfl, rfl, hs⟩
  | (d, t) :: spec, vs, s0, hp, h, hs => by
    simp only [Yr, Option.bind_eq_some_iff] at hp
    obtain ⟨sv, hsv, av, hav, vs', hvs', hp⟩ := hp
    cases hp
    simp only [Yy] at h
    obtain ⟨y, ys, he, h⟩ := asC_some.1 h
    cases he
    replace h := Zi (c := fun v => Yy P spec vs' { s0 with sl := s0.sl.set d (.v v) } c) h
    have hsv' : sv = .v av := by cases sv <;> simp [SV.val] at hav; rw [hav]
    subst hsv'
    obtain ⟨s1, h1, h2, h3, h5⟩ := Tz (s0 := { s0 with sl := s0.sl.set d (.v av) }) hvs' h (fun d' v hv => by
      by_cases e : d = d'
      · subst e
        simp only [Tr.get_set_self] at hv
        obtain ⟨z, _, hz⟩ := oM hv
        subst hz; exact ⟨⟨_, hsv⟩, .inr hsv⟩
      · simp only [Tr.get_set_ne _ e] at hv; exact hs d' v hv)
    exact ⟨s1, h1, h2, h3, h5⟩
theorem closed_none : wJ ops (Array.replicate ops.size false) := by
  intro j o ho hl
  have hlt := (Array.getElem?_eq_some_iff.1 ho).1
  simp [Array.getD_eq_getD_getElem?, hlt] at hl
theorem rem_all : rem ops (Array.replicate ops.size false) = List.range ops.size := by
  unfold rem
  rw [List.filter_eq_self]
  intro i hi
  have := List.mem_range.1 hi
  simp [Array.getD_eq_getD_getElem?, this]
theorem freshAll_of {s : St} (h : freshAll A ops s = true) (l : List Nat) : Zq A ops l s := by
  intro j _ o ho hn d hd
  have h1 := List.all_eq_true.1 h o (by rw [Array.mem_toList_iff]; exact Array.mem_of_getElem? ho)
  have key : ∀ (hl : A.loc.contains d = true), (!(A.loc.contains d) || s.sl.all fun v => !(isRef d v)) = true → yz d s := by
    intro hl hh i v hv
    rw [hl] at hh
    simp only [Bool.not_true, Bool.false_or] at hh
    have := Tr.all_get hh hv
    simpa using this
  unfold zi at hn
  split at hn <;> first | cases hn | skip
  all_goals first
    | (rename_i ho'
       rw [ho'] at h1
       simp only [hd] at h1 hn
       have hl : A.loc.contains d = true := by cases hl : A.loc.contains d <;> rw [hl] at hn <;> first | rfl | cases hn
       exact key hl h1)
    | (split at hn <;> cases hn)
    | (rename_i d' _; cases hl : A.loc.contains d' <;> rw [hl] at hn <;> cases hn)
theorem Yk {α : Type} (f : α → α) (t : Tr α) : ∀ (l : List Nat) (u : Tr α), (∀ d v, u.get d = some v → (∃ x, t.get d = some x) ∧ ((∃ x, v = f x) ∨ t.get d = some v)) →
    ∀ d v, (l.foldl (fun u i => match t.get i with | some v => u.set i v | none => u) u).get d = some v → (∃ x, t.get d = some x) ∧ ((∃ x, v = f x) ∨ t.get d = some v)
  | [], u, hu => hu
  | i :: l, u, hu => by
    rw [List.foldl_cons]
    refine Yk f t l _ ?_
    cases hi : t.get i with
    | none => exact hu
    | some y =>
      intro d v hv
      by_cases e : i = d
      · subst e
        simp only [Tr.get_set_self] at hv
        obtain ⟨z, _, hz⟩ := oM hv
        subst hz
        exact ⟨⟨_, hi⟩, .inr hi⟩
      · simp only [Tr.get_set_ne _ e] at hv; exact hu d v hv
theorem WK (A : FAn) (id : Nat) (r : Rel P B Ie he we I lam s a w) : Rel P B Ie he we I lam (maskR A id s) a w := by
  unfold maskR
  split
  · exact r
  · rename_i p _
    refine r.loose (fun d v hv => ?_) (fun k cs hk => hk) rfl
    obtain ⟨h1, h2⟩ := Yk (fun _ => .u) s.sl p _ (fun d v hv => by
      rw [Tr.get_map] at hv
      obtain ⟨y, hy, rfl⟩ := oM hv
      exact ⟨⟨y, hy⟩, .inl ⟨y, rfl⟩⟩) d v hv
    refine ⟨h1, ?_⟩
    rcases h2 with ⟨_, h2⟩ | h2
    · exact .inl h2
    · exact .inr h2
theorem region_in (hN : yj P = true) (hm : P.follows .mixedOrders = true) (hor : Zj P B A) (hev : Zz P B ev) (hro : xk A ev) {id : Nat} {draw : Bool} (r : Rel P B Ie he we I lam s a w) {R : Type} {x : R} {c : St → Option R} (h : evRegion P A ev dOk id ops draw s c = some x) {ro : Option Nat} {Q : Exit → Act → World → Prop}
    (hn : ∀ s', c s' = some x → NextOk P B Ie he we a s' (Q .normal)) : (Code.region id ops draw).wpIn (FW ro) 0 P Q a w := by
  unfold evRegion at h
  obtain ⟨hd, h⟩ := gB.1 h
  have key : ∀ s1, zS P A ev ops (List.range ops.size) s = some s1 → NextOk P B Ie he we a s1 (Q .normal) → (Code.region id ops draw).wpIn (FW ro) 0 P Q a w := by
    intro s1 h1 hn1
    cases draw with
    | false => exact wpIn_region (idx_in hN hor hev _ r h1 hn1)
    | true =>
      refine wpIn_region_any hm ?_
      simp only [Bool.not_true, Bool.false_or, Bool.and_eq_true] at hd
      exact any_in hN hor hev hro hd.1 ops.size r.drew (freshAll_of hd.2 _) closed_none (by simp) (by rw [rem_all]; simp) (by rw [rem_all]; exact h1) hn1
  split at h
  · rw [wr] at h
    obtain ⟨s1, h1, h⟩ := oB h
    exact key s1 h1 fun I' lam' a' w' r' hd' => hn _ h I' lam' a' w' (WK A id r') hd'
  · rename_i q spec _
    obtain ⟨hf, h⟩ := gB.1 h
    obtain ⟨⟨vs, H⟩, h1, h⟩ := oB h
    rw [wr] at h1
    replace h1 := oB h1
    obtain ⟨s1, h1, h2⟩ := h1
    obtain ⟨vs', hp, h2⟩ := oB h2
    cases h2
    obtain ⟨e1, e2, e4⟩ := VF (fun i hi o ho => UF hf o (by rw [Array.mem_toList_iff]; exact Array.mem_of_getElem? ho)) h1
    obtain ⟨f1, f2, f4⟩ := Uw ops.toList s
    obtain ⟨s2, g1, g2, g3, g5⟩ := Tz (s0 := { forget s ops.toList with h := s1.h }) hp h (fun d v hv => by
      obtain ⟨hx, h4⟩ := f4 d v hv
      refine ⟨e4 d hx, ?_⟩
      rcases h4 with h | ⟨h, h5⟩
      · exact .inl h
      · exact .inr ((e2 d h5).trans h))
    refine key s1 h1 fun I' lam' a' w' r' hd' => hn s2 g1 I' lam' a' w' (r'.loose g5 (fun k cs hk => ?_) ?_) hd'
    · rw [g2] at hk
      simp only [f1] at hk
      rw [e1]; exact hk
    · rw [g3]
variable {P : Program} {B : Nat} {Ie : List Loc} {he : AH} {we : World} {I : List Loc} {lam : Nat → Nat} {s : St} {a : Act} {w : World}
theorem Vf {w0 : World} (h : Below B w0 w) {b : Nat} (hb : B ≤ b) (o : Obj) : Below B w0 (w.putObj b o) :=
  h.trans ⟨rfl, rfl, rfl, by rw [World.putObj_size]; exact Nat.le_refl _, fun k hk => World.putObj_heap_other (by omega)⟩
theorem Rel.putOwn (r : Rel P B Ie he we I lam s a w) {i : Nat} {o o' : AO} {L : Loc} {O : Obj} (hi : s.h[i]? = some o) (hL : I[i]? = some L) (ho : o.own = true) (ho' : o'.own = true)
    (hr : ORel P B I L (w.putObj L.b O) o') :
    Rel P B Ie he we I lam { s with h := s.h.set i o' } a (w.putObj L.b O) := by
  have hown : OwnB I s.h L.b := ⟨i, o, L, hi, ho, hL, rfl⟩
  have hlt := OwnB.lt r.hp hown
  have get : ∀ (j : Nat) (o2 : AO), (s.h.set i o')[j]? = some o2 → (i = j ∧ o2 = o') ∨ (i ≠ j ∧ s.h[j]? = some o2) := by
    intro j o2 hj
    by_cases e1 : i = j
    · subst e1
      rw [List.getElem?_set_self (List.getElem?_eq_some_iff.1 hi).1] at hj
      exact .inl ⟨rfl, (Option.some.inj hj).symm⟩
    · rw [List.getElem?_set_ne e1] at hj; exact .inr ⟨e1, hj⟩
  have own2 : ∀ b, OwnB I (s.h.set i o') b → OwnB I s.h b := by
    rintro b ⟨j, o2, L2, h1, h2, h3, rfl⟩
    rcases get j o2 h1 with ⟨rfl, rfl⟩ | ⟨_, h1⟩
    · rw [hL] at h3; cases h3; exact hown
    · exact ⟨j, o2, L2, h1, h2, h3, rfl⟩
  refine ⟨r.tm, ⟨fun k cs hk => ?_, r.lo.apart⟩, ⟨by simp [r.hp.len], fun j o2 L2 h1 h2 => ?_, fun j k o1 o2 L1 L2 h1 h2 w1 w2 k1 k2 he => ?_⟩,
    r.kp.trans ⟨List.prefix_refl _, Vf (Below.refl B w) hlt.1 O, by rw [World.putObj_size]; exact Nat.le_refl _, fun b hb hn => World.putObj_heap_other fun hE => hn (hE ▸ hown), fun b hb => .inl (own2 b hb)⟩, r.base, r.df.old fun b _ hd => World.putObj_heap_other fun he => OwnB.noDf r.hp hown (by rw [← he]; exact hd)⟩
  · obtain ⟨h1, ⟨arr2, e2, h2, h3⟩, h4⟩ := r.lo.cells k cs hk
    exact ⟨h1, ⟨arr2, e2, (World.putObj_heap_other (fun (hE : lam k = L.b) => h4 (by rw [hE]; exact hown))).trans h2, h3⟩, fun hw => h4 (own2 _ hw)⟩
  · rcases get j o2 h1 with ⟨rfl, rfl⟩ | ⟨hne, h1⟩
    · rw [hL] at h2; cases h2; exact hr
    · have hob := r.hp.obj j o2 L2 h1 h2
      have hb : o2.own = true → L2.b ≠ L.b := fun hw hE => hne (r.hp.uniq i j o o2 L L2 hi h1 ho hw hL h2 hE.symm)
      cases o2 with
      | row own e' cs2 =>
        cases own with
        | false => exact hob.mono (List.prefix_refl _) (World.putObj_heap_other (by have := ORel.ro hob; omega))
        | true => exact hob.mono (List.prefix_refl _) (World.putObj_heap_other (hb rfl))
      | box e' cs2 => exact hob.mono (List.prefix_refl _) (World.putObj_heap_other (hb rfl))
      | dead => trivial
      | loop l => exact hob.mono (List.prefix_refl _) (World.putObj_heap_other (hb rfl))
  · rcases get j o1 h1 with ⟨e1, _⟩ | ⟨n1, g1⟩ <;> rcases get k o2 h2 with ⟨e2, _⟩ | ⟨n2, g2⟩
    · exact e1.symm.trans e2
    · subst e1; rw [hL] at k1; cases k1
      exact r.hp.uniq i k o o2 L L2 hi g2 ho w2 hL k2 he
    · subst e2; rw [hL] at k2; cases k2
      exact r.hp.uniq j i o1 o L1 L g1 hi w1 ho k1 hL he
    · exact r.hp.uniq j k o1 o2 L1 L2 g1 g2 w1 w2 k1 k2 he
theorem Rel.putNo (r : Rel P B Ie he we I lam s a w) {b : Nat} {O : Obj} (hb : we.heap.size ≤ b) (hno : ¬ OwnB I s.h b) (hc : ∀ arr e z, w.heap[b]? ≠ some (.cells arr e z)) {a' : Act} (ht : a'.tmps = a.tmps)
    (hd : Df we.heap.size a' (w.putObj b O)) : Rel P B Ie he we I lam s a' (w.putObj b O) := by
  have hB : B ≤ b := Nat.le_trans r.base hb
  refine ⟨fun i v hv => by rw [ht]; exact r.tm i v hv, ⟨fun k cs hk => ?_, r.lo.apart⟩, ⟨r.hp.len, fun j o2 L2 h1 h2 => ?_, r.hp.uniq⟩,
    ⟨r.kp.pre, Vf r.kp.bel hB O, by rw [World.putObj_size]; exact r.kp.size, fun c hc1 hn => (World.putObj_heap_other (by omega)).trans (r.kp.foot c hc1 hn), r.kp.fresh⟩, r.base, hd⟩
  · obtain ⟨h1, ⟨arr2, e2, h2, h3⟩, h4⟩ := r.lo.cells k cs hk
    exact ⟨h1, ⟨arr2, e2, (World.putObj_heap_other (fun (hE : lam k = b) => hc _ _ _ (by rw [← hE]; exact h2))).trans h2, h3⟩, h4⟩
  · have hob := r.hp.obj j o2 L2 h1 h2
    have hne : o2.own = true → L2.b ≠ b := fun hw hE => hno ⟨j, o2, L2, h1, hw, h2, hE⟩
    cases o2 with
    | row own e' cs2 =>
      cases own with
      | false => exact hob.mono (List.prefix_refl _) (World.putObj_heap_other (by have := ORel.ro hob; omega))
      | true => exact hob.mono (List.prefix_refl _) (World.putObj_heap_other (hne rfl))
    | box e' cs2 => exact hob.mono (List.prefix_refl _) (World.putObj_heap_other (hne rfl))
    | dead => trivial
    | loop l => exact hob.mono (List.prefix_refl _) (World.putObj_heap_other (hne rfl))
end Go.AM
