/- When operations may be exchanged (IV): an operation does not see a local box into which no temporary leads. -/
import Derived.Test.YthbinbcgjhnijaaB1
import Derived.OrdersIn
set_option linter.all false
namespace Go.AM
open Go.RowKit
variable {P : Program} {A : FAn} {ev : Ev}
noncomputable def zP (s : St) (k : Nat) (c : Option (List Sc)) : St := { s with lo := s.lo.set k c }
@[simp] theorem xN (s : St) (k : Nat) (c : Option (List Sc)) : (zP s k c).h = s.h := rfl
theorem putLo_sl (s : St) (k : Nat) (c : Option (List Sc)) : (zP s k c).sl = s.sl := rfl
theorem yK (s : St) (k : Nat) (c : Option (List Sc)) (x : Operand) : evA (zP s k c) x = evA s x := by cases x <;> rfl
theorem yb (s : St) (k : Nat) (c : Option (List Sc)) (x : Operand) : evV (zP s k c) x = evV s x := by simp only [evV, yK]
theorem wK (s : St) (k : Nat) (c : Option (List Sc)) : ∀ (x : List Operand), evVs (zP s k c) x = evVs s x
  | [] => rfl
  | x :: xs => by simp only [evVs, yb, wK s k c xs]
theorem ZD (s : St) (k : Nat) (c : Option (List Sc)) : ∀ (x : List (Nat × Operand)), evParts (zP s k c) x = evParts s x
  | [] => rfl
  | (i, x) :: xs => by simp only [evParts, yb, ZD s k c xs]
theorem zt (s : St) (k : Nat) (c : Option (List Sc)) (d : Option Tmp) (v : SV) : setSl (zP s k c) d v = zP (setSl s d v) k c := by cases d <;> rfl
theorem xI (s : St) (k : Nat) (c : Option (List Sc)) (h : AH) : { zP s k c with h := h } = zP { s with h := h } k c := rfl
theorem Zh {s : St} {k d : Nat} (hd : d ≠ k) {c : Option (List Sc)} {a : SV} {z : List Sc} : newLocal (zP s k c) d a z = zP (newLocal s d a z) k c := by
  simp only [newLocal, zP, Tr.set_comm hd]
theorem beq_ne {k j : Nat} (h : Nat.beq j k = false) : k ≠ j := fun e => by subst e; simp at h
theorem loadAt_putLo {R : Type} {s : St} {k n : Nat} {c : Option (List Sc)} {a : SV} (h : isRef k a = false) {f : List Sc → Option R} : loadAt (zP s k c) a n f = loadAt s a n f := by
  cases a with
  | l j o => simp only [loadAt, zP, Tr.get_set_ne _ (beq_ne h)]
  | v x => cases x <;> rfl
  | _ => rfl
theorem load1_putLo {R : Type} {s : St} {k : Nat} {c : Option (List Sc)} {a : SV} (h : isRef k a = false) {f : Sc → Option R} : load1 (zP s k c) a f = load1 s a f := by
  cases a with
  | l j o => simp only [load1, zP, Tr.get_set_ne _ (beq_ne h)]
  | v x => cases x <;> rfl
  | _ => rfl
theorem WW {R : Type} {s : St} {k n z : Nat} {c : Option (List Sc)} {a : SV} (h : isRef k a = false) {f : List Sc → Option R} : firstA (zP s k c) a n z f = firstA s a n z f := by
  cases a with
  | s j o => simp only [firstA, zP, Tr.get_set_ne _ (beq_ne h)]
  | v x => cases x with
    | sc x => cases n <;> rfl
    | agg l => rfl
  | _ => rfl
theorem boundI_putLo {R : Type} {s : St} {k n : Nat} {c : Option (List Sc)} {x : Option Operand} {f : Nat → Option R} : boundI (zP s k c) x n f = boundI s x n f := by
  cases x with
  | none => rfl
  | some x => simp only [boundI, yb]
theorem sliceS_putLo {R : Type} {s : St} {k z : Nat} {c : Option (List Sc)} {e : TypeId} {v : Sc} {lo hi mx : Option Operand} {f : Sc → Option R} : sliceS (zP s k c) e z v lo hi mx f = sliceS s e z v lo hi mx f := by
  simp only [sliceS, boundI_putLo, xN]
theorem VW {R : Type} {s : St} {k : Nat} (hf : yz k s) {x : Operand} {f g : SV → Option R} (h : ∀ v, isRef k v = false → f v = g v) : (evA s x).bind f = (evA s x).bind g := by
  cases hx : evA s x with
  | none => rfl
  | some v => exact h v (wH hf hx)
theorem UY {R : Type} {s : St} {k : Nat} (hf : yz k s) {cl : Option (List Sc)} {b : Builtin} {ts : List TypeId} {args : List Operand} {c : SV → St → Option R} :
    builtinK P A b ts args (zP s k cl) c = builtinK P A b ts args s fun v s' => c v (zP s' k cl) := by
  unfold builtinK
  split
  · split
    · simp only [yK]
    · rfl
    · rfl
  · simp only [yb, wK]
  · simp only [yb, wK]
  · simp only [yb, yK, xN, xI]
    congr 1; funext e; congr 1; funext z; congr 1; congr 1; funext xv; congr 1; funext xs
    exact VW hf fun v hv => by simp only [WW hv]
  · simp only [yb, yK, xN, xI]
    congr 1; funext e; congr 1; congr 1; funext xv; congr 1; funext xs
    exact VW hf fun v hv => by simp only [WW hv]
  · rfl
theorem evOp_putLo {R : Type} {s : St} {k : Nat} (hf : yz k s) {cl : Option (List Sc)} {o : Oper} (hc : zi A o ≠ .loc) (hd : o.dst ≠ some k) {c : St → Option R} :
    evOp P A ev o (zP s k cl) c = evOp P A ev o s fun s' => c (zP s' k cl) := by
  unfold evOp
  simp only [setK_eq, newLocalK_eq]
  split
  case h_1 y ho => simp only [yK, zt]
  case h_2 y ho => simp only [yK, zt]
  case h_3 q y z ho => simp only [yK, yb, zt]
  case h_4 e ho =>
    cases hdst : o.dst with
    | none => rfl
    | some d' =>
      have hne : d' ≠ k := fun e => hd (by rw [hdst, e])
      simp only [Option.bind_some, xN, xI, Zh hne, zt]
  case h_5 e y ho =>
    cases hdst : o.dst with
    | none => rfl
    | some d' =>
      have hne : d' ≠ k := fun e => hd (by rw [hdst, e])
      simp only [Option.bind_some, yb, xN, xI, Zh hne, zt]
  case h_6 t ps ho => simp only [ZD, zt]
  case h_7 t n ps ho =>
    cases hdst : o.dst with
    | none => rfl
    | some d' =>
      have hne : d' ≠ k := fun e => hd (by rw [hdst, e])
      simp only [Option.bind_some, ZD, xN, xI, Zh hne, zt]
  case h_8 t y ho =>
    simp only [yK]
    congr 1
    exact VW hf fun v hv => by simp only [loadAt_putLo hv, load1_putLo hv, zt, xN]
  case h_9 t y z ho => unfold zi at hc; rw [ho] at hc; simp at hc
  case h_10 y ho => simp only [yK, zt]
  case h_11 op t y z t' ho => simp only [yb, zt]
  case h_12 op t y ho => simp only [yb, zt]
  case h_13 src dst y ho => simp only [yb, zt]
  case h_14 f first captured ho => simp only [wK, zt]
  case h_15 t l m ho => simp only [yb, xN, xI, zt]
  case h_16 t y lo hi mx ho => simp only [yb, sliceS_putLo, xN, zt]
  case h_17 t y i ho => simp only [yK, zt]
  case h_18 t y i ho => simp only [yK, yb, zt]
  case h_19 y i ho => simp only [yK, zt]
  case h_20 b args ts ho => rw [UY hf]; simp only [zt]
  case h_21 f args ts ho => simp only [yb, wK, xN, xI, zt]
  case h_22 => rfl
section
variable {P : Program} {A : FAn} {ev : Ev} {ops : Array Oper}
noncomputable def zf (P : Program) (A : FAn) (ev : Ev) (ops : Array Oper) (o : Oper) (s : St) : Option St :=
  match o.guard with
  | none => evOp P A ev o s some
  | some (j, w) => ((ops[j]?).bind (·.dst)).bind fun d => (s.sl.get d).bind fun g => match g with
    | .v (.sc (.bool t)) => if t = w then evOp P A ev o s some else some (setSl s o.dst .no)
    | .no => some (setSl s o.dst .no)
    | _ => none
theorem set_same {α : Type} {l : List α} {i : Nat} {x : α} (h : l[i]? = some x) : l.set i x = l := by
  apply List.ext_getElem?
  intro j
  by_cases e : i = j
  · subst e; rw [List.getElem?_set_self (List.getElem?_eq_some_iff.1 h).1, h]
  · rw [List.getElem?_set_ne e]
theorem Yx {R : Type} (o : Oper) (s : St) (c : St → Option R) : evOp P A ev o s c = (evOp P A ev o s some).bind c := by
  rw [evOp_bind]; rfl
theorem evOps_cons {R : Type} {o : Oper} {r : List Oper} {s : St} {c : St → Option R} : evOps P A ev ops (o :: r) s c = (zf P A ev ops o s).bind fun s => evOps P A ev ops r s c := by
  cases hg : o.guard with
  | none => simp only [evOps, zf, hg]; rw [Yx]
  | some p =>
    obtain ⟨j, w⟩ := p
    simp only [evOps, zf, hg, setK_eq]
    cases hd : (ops[j]?).bind (·.dst) with
    | none => simp
    | some d =>
      simp only [Option.bind_some]
      cases hg2 : s.sl.get d with
      | none => simp
      | some g =>
        simp only [Option.bind_some]
        split
        · rename_i t
          have hs : ∀ t', t = t' → setSl s (some d) (.v (.sc (.bool t'))) = s := fun t' ht => by subst ht; simp only [setSl]; rw [Tr.set_same hg2]
          cases w <;> cases t <;> simp [hs _ rfl, ← Yx]
        · rfl
        · split <;> simp_all
noncomputable def zS (P : Program) (A : FAn) (ev : Ev) (ops : Array Oper) : List Nat → St → Option St
  | [], s => some s
  | i :: r, s => ((ops[i]?).map fun o => zf P A ev ops o s).getD (some s) |>.bind (zS P A ev ops r)
theorem TF {R : Type} {c : St → Option R} : ∀ (l : List Oper) (k : Nat), (∀ j, j < l.length → l[j]? = ops[k + j]?) → ∀ s, evOps P A ev ops l s c = (zS P A ev ops (List.range' k l.length) s).bind c
  | [], _, _, s => rfl
  | o :: l, k, h, s => by
    have h0 : ops[k]? = some o := by simpa using (h 0 (by simp)).symm
    have ih := TF (c := c) l (k + 1) (fun j hj => by have := h (j + 1) (by simp; exact hj); simpa [Nat.add_assoc, Nat.add_comm 1 j] using this)
    rw [evOps_cons]
    simp only [List.length_cons, List.range'_succ, zS, h0, Option.map_some, Option.getD_some, Option.bind_assoc]
    congr 1; funext s; exact ih s
theorem wr {R : Type} {c : St → Option R} (s : St) : evOps P A ev ops ops.toList s c = (zS P A ev ops (List.range ops.size) s).bind c := by
  rw [TF ops.toList 0 (fun j hj => by simp)]
  simp [List.range_eq_range']
end
variable {P : Program} {A : FAn} {ev : Ev} {B : Nat} {Ie : List Loc} {he : AH} {we : World} {I : List Loc} {lam : Nat → Nat} {s : St} {a : Act} {w : World} {ops : Array Oper}
theorem one_in (hN : yj P = true) (hor : Zj P B A) (hev : Zz P B ev) (r : Rel P B Ie he we I lam s a w) {i : Nat} {o : Oper} (hi : ops[i]? = some o) {s' : St} (h : zf P A ev ops o s = some s')
    {ro : Option Nat} {K : Act → World → Prop} {Q : Exit → Act → World → Prop} (hn : NextOk P B Ie he we a s' K) : wpOpIn (FW ro) 0 P ops Q i K a w := by
  unfold wpOpIn
  simp only [hi]
  unfold zf at h
  have skip : Region.wanted o (yielded ops a.tmps) = false → some (setSl s o.dst .no) = some s' → (if Region.wanted o (yielded ops a.tmps) = true then o.wpIn (FW ro) 0 P a w K Q else (∀ f, o.about P w a.eval = some f → (FW ro).fn f) ∧ K (a.put o.dst undef) w) := by
    intro hw hs
    cases hs
    simp only [hw, Bool.false_eq_true, if_false]
    exact ⟨fun _ _ => trivial, hn I lam _ w (r.put o.dst rfl) (ZJ _ _ _)⟩
  have take : Region.wanted o (yielded ops a.tmps) = true → evOp P A ev o s some = some s' → (if Region.wanted o (yielded ops a.tmps) = true then o.wpIn (FW ro) 0 P a w K Q else (∀ f, o.about P w a.eval = some f → (FW ro).fn f) ∧ K (a.put o.dst undef) w) := by
    intro hw hs
    simp only [hw, if_true]
    exact op_in hN hor hev r hs hn
  split at h
  · rename_i hg
    exact take (by simp [Region.wanted, hg]) h
  · rename_i j want hg
    obtain ⟨d, hd, h⟩ := oB h
    obtain ⟨g, hgs, h⟩ := oB h
    obtain ⟨x, hx, hr⟩ := r.tm d g hgs
    split at h
    · rename_i t
      have hx' : x = .bool t := hr
      have hy : Region.wanted o (yielded ops a.tmps) = decide (t = want) := by
        simp only [Region.wanted, hg, yielded, hd, Option.bind_some, hx, hx']
        cases t <;> cases want <;> rfl
      split at h
      · rename_i ht; exact take (by rw [hy, ht]; simp) h
      · rename_i ht; exact skip (by rw [hy]; simpa using ht) h
    · have hx' : x = undef := hr
      refine skip ?_ h
      simp only [Region.wanted, hg, yielded, hd, Option.bind_some, hx, hx']
      rfl
    · cases h
theorem idx_in (hN : yj P = true) (hor : Zj P B A) (hev : Zz P B ev) {ro : Option Nat} {Q : Exit → Act → World → Prop} : ∀ (l : List Nat) {I : List Loc} {lam : Nat → Nat} {s : St} {a : Act} {w : World}, Rel P B Ie he we I lam s a w → ∀ {s' : St}, zS P A ev ops l s = some s' →
    NextOk P B Ie he we a s' (Q .normal) → wpOpsIn (FW ro) 0 P ops Q l a w
  | [], I, lam, s, a, w, r, s', h, hn => by cases h; exact hn _ _ _ _ r rfl
  | i :: l, I, lam, s, a, w, r, s', h, hn => by
    rw [wpOpsIn_cons]
    simp only [zS] at h
    cases hi : ops[i]? with
    | none =>
      rw [hi] at h
      unfold wpOpIn
      simp only [hi]
      exact idx_in hN hor hev l r h hn
    | some o =>
      rw [hi] at h
      obtain ⟨s1, h1, h⟩ := oB h
      refine one_in hN hor hev r hi h1 fun I' lam' a' w' r' hd => ?_
      exact idx_in hN hor hev l r' h fun I2 l2 a2 w2 r2 hd2 => hn I2 l2 a2 w2 r2 (hd2.trans hd)
variable {P : Program} {A : FAn} {ev : Ev} {ops : Array Oper}
inductive Kd where
  | slots | ldL (k : Nat) | ldH | ldB | stL (k : Nat) | stH | alloc | ro | call | app | other
def zY (A : FAn) (o : Oper) : Kd :=
  match o.op with
  | .move _ | .assign _ | .build _ _ | .nilCheck _ | .binOp _ _ _ _ _ | .unOp _ _ _ | .fieldAddr _ _ _ | .indexAddr _ _ _ | .extract _ _ => .slots
  | .load _ x => match rootOf A x with
    | some k => .ldL k
    | none => match x with
      | .tmp d => cond (A.ldb.contains d) .ldB (cond (A.hst.contains d) .ldH .other)
      | _ => .other
  | .store _ x _ => match rootOf A x with
    | some k => .stL k
    | none => match x with
      | .tmp d => cond (A.hst.contains d) .stH .other
      | _ => .other
  | .buildSlice _ _ _ => match o.dst with | some d => cond (A.loc.contains d) .other .alloc | none => .other
  | .makeSlice _ _ _ => .alloc
  | .call { callee := .builtin .append, .. } => .app
  | .call { callee := .value (.func f), .. } => cond (A.ro.contains f) .ro .call
  | .call { callee := .value _, .. } => .call
  | _ => .other
def wn : Kd → Kd → Bool
  | .other, _ => false
  | _, .other => false
  | .slots, _ => true
  | _, .slots => true
  | .ldL k, .stL j => !(Nat.beq k j)
  | .ldL _, _ => true
  | .stL k, .ldL j => !(Nat.beq k j)
  | .stL k, .stL j => !(Nat.beq k j)
  | _, .ldL _ => true
  | .stL _, .app => false
  | .app, .stL _ => false
  | .stL _, _ => true
  | _, .stL _ => true
  | .ldH, .ldH | .ldH, .ldB | .ldB, .ldH | .ldB, .ldB | .ldH, .ro | .ldB, .ro | .ro, .ldH | .ro, .ldB | .ro, .ro => true
  | .ldH, .alloc | .ldB, .alloc | .ldB, .app => true
  | _, _ => false
def kdOk (A : FAn) (ops : Array Oper) (x y : Oper) : Bool := wn (zY A x) (zY A y) && x.apart ops y
def Sees (ops : Array Oper) (o : Oper) (s s2 : St) : Prop := ∀ d ∈ o.looksAt ops, s2.sl.get d = s.sl.get d
def yx (o : Oper) (s s2 : St) : Prop := ∀ x ∈ o.op.operands.toList, evA s2 x = evA s x
theorem Sees.opd {o : Oper} {s s2 : St} (h : Sees ops o s s2) : yx o s s2 := fun x hx => by
  cases x with
  | tmp t => exact h t (List.mem_append_left _ (List.mem_filterMap.2 ⟨.tmp t, hx, rfl⟩))
  | _ => rfl
theorem sees_set {o : Oper} {s : St} {d : Option Tmp} {v : SV} {lo : Tr (Option (List Sc))} {h : AH} (hd : ∀ t, d = some t → t ∉ o.looksAt ops) : Sees ops o (setSl { s with lo := lo, h := h } d v) s := fun t ht => by
  cases d with
  | none => rfl
  | some d => simp only [setSl]; rw [Tr.get_set_ne _ (fun e => hd d rfl (by rw [e]; exact ht))]
theorem sees_set' {o : Oper} {s : St} {d : Option Tmp} {v : SV} {lo : Tr (Option (List Sc))} {h : AH} (hd : ∀ t, d = some t → t ∉ o.looksAt ops) : Sees ops o s (setSl { s with lo := lo, h := h } d v) := fun t ht => (sees_set hd t ht).symm
theorem xS {s s2 : St} {x : Operand} (h : evA s2 x = evA s x) : evV s2 x = evV s x := by unfold evV; rw [h]
theorem evVs_of {s s2 : St} : ∀ {l : List Operand}, (∀ x ∈ l, evA s2 x = evA s x) → evVs s2 l = evVs s l
  | [], _ => rfl
  | x :: r, h => by simp only [evVs, xS (h x (List.mem_cons_self ..)), evVs_of fun y hy => h y (List.mem_cons_of_mem _ hy)]
theorem YI {s s2 : St} : ∀ {l : List (Nat × Operand)}, (∀ x ∈ l, evA s2 x.2 = evA s x.2) → evParts s2 l = evParts s l
  | [], _ => rfl
  | (i, x) :: r, h => by simp only [evParts, xS (h (i, x) (List.mem_cons_self ..)), YI fun y hy => h y (List.mem_cons_of_mem _ hy)]
structure Does (E : St → Option St) (S : St → Prop) (o : Oper) (s t : St) (RL : Tr (Option (List Sc)) → Prop) (RH : AH → Prop) (L : Tr (Option (List Sc)) → Tr (Option (List Sc))) (H : AH → AH) (v : Nat → SV) : Prop where
  eq : t = setSl { s with lo := L s.lo, h := H s.h } o.dst (v s.h.length)
  again : ∀ s2, S s2 → RL s2.lo → RH s2.h → E s2 = some (setSl { s2 with lo := L s2.lo, h := H s2.h } o.dst (v s2.h.length))
def Eff (E : St → Option St) (S : St → Prop) (o : Oper) (s t : St) (kd : Kd) : Prop := ∃ (v : SV) (f : Nat → SV) (h' : AH) (cs : List Sc), match kd with
  | .slots => True ∧ Does E S o s t (fun _ => True) (fun _ => True) id id fun _ => v
  | .ldL k => True ∧ Does E S o s t (fun l => l.get k = s.lo.get k) (fun _ => True) id id fun _ => v
  | .ldH => True ∧ Does E S o s t (fun _ => True) (fun (h : AH) => ∀ (id : Nat) (ob : AO), s.h[id]? = some ob → h[id]? = some ob) id id fun _ => v
  | .ldB => True ∧ Does E S o s t (fun _ => True) (fun (h : AH) => ∀ (id : Nat), boxOk s.h id = true → h[id]? = s.h[id]?) id id fun _ => v
  | .stL k => True ∧ Does E S o s t (fun l => l.get k = s.lo.get k) (fun _ => True) (fun l => l.set k (some cs)) id fun _ => v
  | .stH => True ∧ Does E S o s t (fun _ => True) (fun h => h = s.h) id (fun _ => h') fun _ => v
  | .alloc => True ∧ Does E S o s t (fun _ => True) (fun _ => True) id (fun h => h ++ h') f
  | .ro => True ∧ Does E S o s t (fun _ => True) (fun h => h = s.h) id id fun _ => v
  | .call => True ∧ Does E S o s t (fun _ => True) (fun h => h = s.h) id (fun _ => h') fun _ => v
  | .app => (∀ id, boxOk s.h id = true → h'[id]? = s.h[id]?) ∧ Does E S o s t (fun l => l = s.lo) (fun h => h = s.h) id (fun _ => h') fun _ => v
  | .other => False
theorem Eff.imp {E E' : St → Option St} {S S' : St → Prop} {o : Oper} {s t : St} (h : ∀ s2, S' s2 → S s2 ∧ E' s2 = E s2) {kd : Kd} (e : Eff E S o s t kd) : Eff E' S' o s t kd := by
  have g : ∀ {RL RH L H v}, Does E S o s t RL RH L H v → Does E' S' o s t RL RH L H v := fun d => ⟨d.eq, fun s2 h1 h2 h3 => by rw [(h s2 h1).2]; exact d.again s2 (h s2 h1).1 h2 h3⟩
  obtain ⟨a, b, c, d, e⟩ := e
  refine ⟨a, b, c, d, ?_⟩
  cases kd <;> first | exact ⟨e.1, g e.2⟩ | exact e
theorem swap_core {x y : Oper} {s s1 s2 : St} {RLx RLy : Tr (Option (List Sc)) → Prop} {RHx RHy : AH → Prop} {Lx Ly : Tr (Option (List Sc)) → Tr (Option (List Sc))} {Hx Hy : AH → AH} {vx vy : Nat → SV}
    (hap : x.apart ops y = true) (dx : Does (zf P A ev ops x) (Sees ops x s) x s s1 RLx RHx Lx Hx vx) (dy : Does (zf P A ev ops y) (Sees ops y s1) y s1 s2 RLy RHy Ly Hy vy)
    (c1 : RLy s.lo) (c2 : RHy s.h) (c3 : RLx (Ly s.lo)) (c4 : RHx (Hy s.h)) (c5 : Lx (Ly s.lo) = Ly (Lx s.lo)) (c6 : Hx (Hy s.h) = Hy (Hx s.h)) (c7 : vx (Hy s.h).length = vx s.h.length) (c8 : vy s.h.length = vy (Hx s.h).length) :
    ∃ t, zf P A ev ops y s = some t ∧ zf P A ev ops x t = some s2 := by
  obtain ⟨a1, a2, a3⟩ := Oper.apart_spec hap
  have e1 := dx.eq
  have e2 := dy.eq
  have sl : ∀ (s : St) (d : Option Tmp) (v : SV), (setSl s d v).lo = s.lo ∧ (setSl s d v).h = s.h := fun s d v => by cases d <;> exact ⟨rfl, rfl⟩
  have r1 := dy.again s (by rw [e1]; exact sees_set a1) c1 c2
  refine ⟨_, r1, ?_⟩
  rw [dx.again _ (sees_set' a3) (by rw [(sl _ _ _).1]; exact c3) (by rw [(sl _ _ _).2]; exact c4), e2, e1]
  congr 1
  have g : ∀ (d e : Option Tmp) (u v : SV) (l1 l2 : Tr (Option (List Sc))) (h1 h2 : AH), setSl { setSl { s with lo := l1, h := h1 } d u with lo := l2, h := h2 } e v = setSl (setSl { s with lo := l2, h := h2 } d u) e v := fun d e u v l1 l2 h1 h2 => by cases d <;> cases e <;> rfl
  refine (g y.dst x.dst (vy s.h.length) _ (Ly s.lo) _ (Hy s.h) _).trans (Eq.trans ?_ (g x.dst y.dst (vx s.h.length) _ (Lx s.lo) _ (Hx s.h) _).symm)
  simp only [ww, zw, c5, c6, c7, ← c8]
  exact zT (fun t ht hx => a2 t hx ht)
theorem Vr {x y : Oper} {s s1 s2 : St} {kx ky : Kd} (hk : wn kx ky = true) (hap : x.apart ops y = true) (ex : Eff (zf P A ev ops x) (Sees ops x s) x s s1 kx) (ey : Eff (zf P A ev ops y) (Sees ops y s1) y s1 s2 ky) : ∃ t, zf P A ev ops y s = some t ∧ zf P A ev ops x t = some s2 := by
  have lo1 : ∀ {RL RH L H v}, Does (zf P A ev ops x) (Sees ops x s) x s s1 RL RH L H v → s1.lo = L s.lo := fun d => by rw [d.eq, ww]
  have h1 : ∀ {RL RH L H v}, Does (zf P A ev ops x) (Sees ops x s) x s s1 RL RH L H v → s1.h = H s.h := fun d => by rw [d.eq, zw]
  have ne : ∀ {k j : Nat}, (!(Nat.beq k j)) = true → k ≠ j := fun h e => by subst e; simp at h
  obtain ⟨_, _, _, _, ex⟩ := ex
  obtain ⟨_, _, _, _, ey⟩ := ey
  cases kx <;> cases ky <;> first
    | (exfalso; revert hk; simp [wn]; done)
    | (obtain ⟨_, dx⟩ := ex
       obtain ⟨q, dy⟩ := ey
       have l := lo1 dx
       have g := h1 dx
       simp only [id] at l g
       refine swap_core hap dx dy ?_ ?_ ?_ ?_ ?_ ?_ ?_ ?_ <;> first
         | trivial
         | rfl
         | (simp only [l, g, id]; done)
         | (rw [g]; done)
         | (rw [l]; done)
         | (intro _ _ h; exact h)
         | (intro _ _ h; rw [g] at h; exact h)
         | (intro _ _; rw [g]; done)
         | (intro _ _ h; exact (List.getElem?_append_left (List.getElem?_eq_some_iff.1 h).1).trans h)
         | (intro _ _; rfl)
         | (rw [g] at q; exact q)
         | (intro id hb; exact List.getElem?_append_left (by
              unfold boxOk at hb
              cases hq : s.h[id]? with
              | none => rw [hq] at hb; cases hb
              | some o => exact (List.getElem?_eq_some_iff.1 hq).1))
         | (simp only [wn] at hk; first | exact Tr.get_set_ne _ (ne hk) _ | exact Tr.get_set_ne _ (Ne.symm (ne hk)) _ | exact (Tr.get_set_ne _ (ne hk) _).symm | exact (Tr.get_set_ne _ (Ne.symm (ne hk)) _).symm | (rw [l]; exact Tr.get_set_ne _ (ne hk) _) | (rw [l]; exact (Tr.get_set_ne _ (ne hk) _).symm) | exact Tr.set_comm (ne hk) _ _ | exact Tr.set_comm (Ne.symm (ne hk)) _ _))
variable {P : Program} {A : FAn} {ev : Ev} {ops : Array Oper} {o : Oper} {s t : St}
theorem zZ {α : Type} (b : Bool) (x y : α) : cond b x y = if b = true then x else y := by cases b <;> rfl
theorem sees_self (o : Oper) (s : St) : yx o s s := fun _ _ => rfl
theorem Zs {F : Option SV} (hF : ∀ s2, yx o s s2 → evOp P A ev o s2 some = F.bind fun v => some (setSl s2 o.dst v)) (h : evOp P A ev o s some = some t) : Eff (fun s => evOp P A ev o s some) (yx o s) o s t .slots := by
  rw [hF s (sees_self o s)] at h
  obtain ⟨v, hv, h⟩ := oB h
  cases h
  exact ⟨v, fun _ => v, [], [], trivial, rfl, fun s2 h2 _ _ => by show evOp P A ev o s2 some = _; rw [hF s2 h2, hv]; rfl⟩
theorem eff_slots (hk : zY A o = .slots) (h : evOp P A ev o s some = some t) : Eff (fun s => evOp P A ev o s some) (yx o s) o s t .slots := by
  have mv : ∀ x, o.op = .move x ∨ o.op = .assign x → Eff (fun s => evOp P A ev o s some) (yx o s) o s t .slots := fun x ho => Zs (F := evA s x) (fun s2 hs => by
    have e : evA s2 x = evA s x := by rcases ho with ho | ho <;> exact hs x (by rw [ho]; simp [Op.operands])
    unfold evOp
    rcases ho with ho | ho <;> rw [ho] <;> simp only [setK_eq, e]) h
  unfold zY at hk
  split at hk
  case h_1 x ho => exact mv x (.inl ho)
  case h_2 x ho => exact mv x (.inr ho)
  case h_3 ty ps ho =>
    refine Zs (F := (zeroCells P ty).bind fun z => (places P ty).bind fun pl => (evParts s ps.toList).bind fun vs => (fillA pl z vs).bind fun cs => some (.v (.agg cs))) (fun s2 hs => ?_) h
    have e : evParts s2 ps.toList = evParts s ps.toList := YI fun y hy => hs y.2 (by rw [ho]; simp only [Op.operands, List.mem_toArray, List.mem_map]; exact ⟨y, hy, rfl⟩)
    unfold evOp
    rw [ho]
    simp only [setK_eq, e, Option.bind_assoc, Option.bind_some]
  case h_4 x ho =>
    refine Zs (F := (evA s x).bind fun v => match v with | .l k off => some (.l k off) | .v (.sc p) => asP p fun id off => some (.v (.sc (.ptr id off))) | _ => none) (fun s2 hs => ?_) h
    have e : evA s2 x = evA s x := hs x (by rw [ho]; simp [Op.operands])
    unfold evOp
    rw [ho]
    simp only [setK_eq, e, Option.bind_assoc]
    congr 1
    funext v
    split <;> simp [wC]
  case h_5 op ty x y ty2 ho =>
    refine Zs (F := (evV s x).bind fun x => (evV s y).bind fun y => guardB (opOk op y) <| (binop P op ty x y).bind fun v => some (.v (.sc v))) (fun s2 hs => ?_) h
    have e1 : evV s2 x = evV s x := xS (hs x (by rw [ho]; simp [Op.operands]))
    have e2 : evV s2 y = evV s y := xS (hs y (by rw [ho]; simp [Op.operands]))
    unfold evOp
    rw [ho]
    simp only [setK_eq, e1, e2, Option.bind_assoc, zm, Option.bind_some]
  case h_6 op ty x ho =>
    refine Zs (F := (evV s x).bind fun x => (unop op x).bind fun v => some (.v (.sc v))) (fun s2 hs => ?_) h
    have e1 : evV s2 x = evV s x := xS (hs x (by rw [ho]; simp [Op.operands]))
    unfold evOp
    rw [ho]
    simp only [setK_eq, e1, Option.bind_assoc, Option.bind_some]
  case h_7 ty x i ho =>
    refine Zs (F := match P.underlying ty with
      | some (.struct fs) => (fs.toList[i]?).bind fun f => guardB (!(Nat.beq (P.cellsOf f.type) 0)) <| (evA s x).bind fun a => addAt a f.offset some
      | _ => none) (fun s2 hs => ?_) h
    have e : evA s2 x = evA s x := hs x (by rw [ho]; simp [Op.operands])
    unfold evOp
    rw [ho]
    simp only [setK_eq, e]
    cases P.underlying ty with
    | none => rfl
    | some d => cases d <;> simp [Option.bind_assoc, zm, ZK]
  case h_8 ty x i ho =>
    refine Zs (F := match P.underlying ty with
      | some (.slice e) => guardB (P.info? e).isSome <| (evV s x).bind fun x => asSc x fun x => asS x fun id off len => (evV s i).bind fun i => idxI i len fun i => some (.v (.sc (.ptr id (off + i * P.cellsOf e))))
      | some (.array n e) => guardB (P.info? e).isSome <| (evA s x).bind fun a => (evV s i).bind fun i => idxI i n fun i => addAt a (i * P.cellsOf e) some
      | _ => none) (fun s2 hs => ?_) h
    have e : evA s2 x = evA s x := hs x (by rw [ho]; simp [Op.operands])
    have e2 : evV s2 i = evV s i := xS (hs i (by rw [ho]; simp [Op.operands]))
    unfold evOp
    rw [ho]
    simp only [setK_eq, e, e2, xS e]
    cases P.underlying ty with
    | none => rfl
    | some d => cases d <;> simp [Option.bind_assoc, zm, ZK, xh, Wm, Qc]
  case h_9 x i ho =>
    refine Zs (F := (evA s x).bind fun v => match v with
      | .t vs => (vs[i]?).bind fun v => some (.v v)
      | _ => none) (fun s2 hs => ?_) h
    have e : evA s2 x = evA s x := hs x (by rw [ho]; simp [Op.operands])
    unfold evOp
    rw [ho]
    simp only [setK_eq, e, Option.bind_assoc]
    congr 1
    funext v
    cases v <;> simp [Option.bind_assoc]
  all_goals (exfalso; (try simp only [zZ] at hk); repeat' (first | cases hk | split at hk))
variable {P : Program} {A : FAn} {ev : Ev} {ops : Array Oper} {o : Oper} {s t : St}
noncomputable def ldG (P : Program) (A : FAn) (ty : TypeId) (x : Operand) (s : St) (a : SV) : Option SV := guardB (onlyL A x a && onlyX A s.h x a) <| cond (yB P ty) (loadAt s a (P.cellsOf ty) fun l => asLeaves (yo P 8 ty) l fun ys => some (.v (.agg ys)))
  (load1 s a fun x => asLeaf ((yo P 8 ty).getD 0 .any) x fun y => some (.v (.sc y)))
theorem load_eq {ty : TypeId} {x : Operand} (ho : o.op = .load ty x) (s : St) : evOp P A ev o s some = (guardB (P.underlying ty).isSome <| (evA s x).bind fun a => ldG P A ty x s a).bind fun v => some (setSl s o.dst v) := by
  unfold evOp ldG
  rw [ho]
  simp only [setK_eq, zm, Option.bind_assoc, wE, xM, wh, xK, wp, Option.bind_some]
theorem Vj {ty : TypeId} {x : Operand} (ho : o.op = .load ty x) (h : evOp P A ev o s some = some t) : ∃ a v, evA s x = some a ∧ ldG P A ty x s a = some v ∧ t = setSl s o.dst v ∧ ∀ s2, yx o s s2 → ldG P A ty x s2 a = some v → evOp P A ev o s2 some = some (setSl s2 o.dst v) := by
  rw [load_eq ho] at h
  obtain ⟨v, hv, h⟩ := oB h
  cases h
  obtain ⟨hg, hv⟩ := gB.1 hv
  obtain ⟨a, ha, hv⟩ := oB hv
  refine ⟨a, v, ha, hv, rfl, fun s2 hs h2 => ?_⟩
  rw [load_eq ho, show evA s2 x = evA s x from hs x (by rw [ho]; simp [Op.operands]), ha, hg]
  simp only [guardB, cond_true, Option.bind_some, h2]
theorem eff_ldL {k : Nat} (hk : zY A o = .ldL k) (h : evOp P A ev o s some = some t) : Eff (fun s => evOp P A ev o s some) (yx o s) o s t (.ldL k) := by
  have main : ∀ ty x, o.op = .load ty x → rootOf A x = some k → Eff (fun s => evOp P A ev o s some) (yx o s) o s t (.ldL k) := fun ty x ho hr => by
    obtain ⟨a, v, ha, hv, rfl, hall⟩ := Vj ho h
    refine ⟨v, fun _ => v, [], [], trivial, rfl, fun s2 h2 hl _ => hall s2 h2 ?_⟩
    have hx : ∃ off, a = .l k off := by
      unfold ldG at hv
      obtain ⟨hg, _⟩ := gB.1 hv
      simp only [onlyX, Bool.and_eq_true] at hg
      have h3 := hg.2.1.2
      unfold onlyR at h3
      rw [hr] at h3
      simp only at h3
      split at h3
      · exact ⟨_, by rw [Nat.eq_of_beq_eq_true h3]⟩
      · cases h3
    obtain ⟨off, rfl⟩ := hx
    have hl' : s2.lo.get k = s.lo.get k := hl
    have e : ldG P A ty x s2 (.l k off) = ldG P A ty x s (.l k off) := by
      unfold ldG
      simp only [loadAt, load1, hl', onlyX, onlyB]
    rw [e]; exact hv
  unfold zY at hk
  split at hk
  case h_10 ty x ho =>
    split at hk
    · rename_i k' hr; cases hk; exact main ty x ho hr
    · exfalso; (try simp only [zZ] at hk); repeat' (first | cases hk | split at hk)
  all_goals (exfalso; (try simp only [zZ] at hk); repeat' (first | cases hk | split at hk))
theorem ld_heap {ty : TypeId} {x : Operand} {a v : SV} (hv : ldG P A ty x s a = some v) (hh : ∀ k off, a ≠ .l k off) : ∃ id off ob, a = .v (.sc (.ptr id off)) ∧ s.h[id]? = some ob ∧ ∀ s2 : St, s2.h[id]? = some ob → ldG P A ty x s2 a = some v := by
  unfold ldG at hv
  obtain ⟨hg, hv⟩ := gB.1 hv
  have hp : ∃ id off, a = .v (.sc (.ptr id off)) := by
    rcases cond_some.1 hv with ⟨_, hv⟩ | ⟨_, hv⟩
    · unfold loadAt at hv
      split at hv
      · exact absurd rfl (hh _ _)
      · obtain ⟨id, off, rfl, _⟩ := asP_some.1 hv; exact ⟨id, off, rfl⟩
      · cases hv
    · unfold load1 at hv
      split at hv
      · exact absurd rfl (hh _ _)
      · obtain ⟨id, off, rfl, _⟩ := asP_some.1 hv; exact ⟨id, off, rfl⟩
      · cases hv
  obtain ⟨id, off, rfl⟩ := hp
  have ho : ∃ ob, s.h[id]? = some ob := by
    rcases cond_some.1 hv with ⟨_, hv⟩ | ⟨_, hv⟩
    · simp only [loadAt, asP, ldNK, Option.bind_eq_some_iff] at hv; obtain ⟨ob, h, _⟩ := hv; exact ⟨ob, h⟩
    · simp only [load1, asP, ld1, Option.bind_eq_some_iff] at hv; obtain ⟨_, ⟨ob, h, _⟩, _⟩ := hv; exact ⟨ob, h⟩
  obtain ⟨ob, ho⟩ := ho
  refine ⟨id, off, ob, rfl, ho, fun s2 h2 => ?_⟩
  have eb : boxOk s2.h id = boxOk s.h id := by unfold boxOk; rw [h2, ho]
  unfold ldG
  have e1 : onlyX A s2.h x (.v (.sc (.ptr id off))) = onlyX A s.h x (.v (.sc (.ptr id off))) := by
    unfold onlyX onlyB
    cases x <;> simp only [eb]
  rw [e1, hg]
  simp only [guardB, cond_true]
  simp only [loadAt, load1, asP, ldNK, ld1, h2, ho] at hv ⊢
  exact hv
theorem eff_ldH (hk : zY A o = .ldH) (h : evOp P A ev o s some = some t) : Eff (fun s => evOp P A ev o s some) (yx o s) o s t .ldH := by
  have main : ∀ ty d, o.op = .load ty (.tmp d) → A.hst.contains d = true → Eff (fun s => evOp P A ev o s some) (yx o s) o s t .ldH := fun ty d ho hr => by
    obtain ⟨a, v, ha, hv, rfl, hall⟩ := Vj ho h
    have hh : ∀ k off, a ≠ .l k off := by
      intro k off e
      subst e
      unfold ldG at hv
      obtain ⟨hg, _⟩ := gB.1 hv
      simp only [onlyX, Bool.and_eq_true] at hg
      have h3 := hg.2.1.1
      simp only [onlyH, hr, Bool.not_true, Bool.false_or] at h3; cases h3
    obtain ⟨id, off, ob, rfl, ho, hall2⟩ := ld_heap hv hh
    exact ⟨v, fun _ => v, [], [], trivial, rfl, fun s2 h2 _ hl => hall s2 h2 (hall2 s2 (hl id ob ho))⟩
  unfold zY at hk
  split at hk
  case h_10 ty x ho =>
    split at hk
    · cases hk
    · split at hk
      · rename_i d hr
        cases h1 : A.ldb.contains d <;> rw [h1] at hk
        · cases h2 : A.hst.contains d <;> rw [h2] at hk
          · cases hk
          · exact main ty d ho h2
        · cases hk
      · cases hk
  all_goals (exfalso; (try simp only [zZ] at hk); repeat' (first | cases hk | split at hk))
theorem eff_ldB (hk : zY A o = .ldB) (h : evOp P A ev o s some = some t) : Eff (fun s => evOp P A ev o s some) (yx o s) o s t .ldB := by
  have main : ∀ ty d, o.op = .load ty (.tmp d) → A.ldb.contains d = true → Eff (fun s => evOp P A ev o s some) (yx o s) o s t .ldB := fun ty d ho hr => by
    obtain ⟨a, v, ha, hv, rfl, hall⟩ := Vj ho h
    have hg : onlyB A s.h (.tmp d) a = true := by
      unfold ldG at hv
      obtain ⟨hg, _⟩ := gB.1 hv
      simp only [onlyX, Bool.and_eq_true] at hg
      exact hg.2.2
    simp only [onlyB, hr, Bool.not_true, Bool.false_or] at hg
    have hh : ∀ k off, a ≠ .l k off := fun k off e => by subst e; cases hg
    obtain ⟨id, off, ob, rfl, ho, hall2⟩ := ld_heap hv hh
    exact ⟨v, fun _ => v, [], [], trivial, rfl, fun s2 h2 _ hl => hall s2 h2 (hall2 s2 ((hl id hg).trans ho))⟩
  unfold zY at hk
  split at hk
  case h_10 ty x ho =>
    split at hk
    · cases hk
    · split at hk
      · rename_i d hr
        cases h1 : A.ldb.contains d <;> rw [h1] at hk
        · cases h2 : A.hst.contains d <;> rw [h2] at hk <;> cases hk
        · exact main ty d ho h1
      · cases hk
  all_goals (exfalso; (try simp only [zZ] at hk); repeat' (first | cases hk | split at hk))
variable {P : Program} {A : FAn} {ev : Ev} {ops : Array Oper} {o : Oper} {s t : St}
theorem Vy {ty : TypeId} {x y : Operand} (ho : o.op = .store ty x y) (h : evOp P A ev o s some = some t) : ∃ av v, evA s x = some av ∧ onlyS A x av = true ∧ (storeAt s av v fun s => some (setSl s o.dst .no)) = some t ∧
    ∀ s2, yx o s s2 → evOp P A ev o s2 some = storeAt s2 av v fun s => some (setSl s o.dst .no) := by
  unfold evOp at h
  rw [ho] at h
  simp only [setK_eq] at h
  obtain ⟨hg, h⟩ := gB.1 h
  obtain ⟨av, ha, h⟩ := oB h
  obtain ⟨v, hv, h⟩ := oB h
  obtain ⟨hg2, h⟩ := gB.1 h
  refine ⟨av, v.cells, ha, (Bool.and_eq_true_iff.1 hg2).2, h, fun s2 hs => ?_⟩
  have e1 : evA s2 x = some av := (hs x (by rw [ho]; simp [Op.operands])).trans ha
  have e2 : evV s2 y = some v := (xS (hs y (by rw [ho]; simp [Op.operands]))).trans hv
  unfold evOp
  rw [ho]
  simp only [setK_eq, e1, e2, Option.bind_some, hg, hg2, guardB, cond_true]
theorem eff_stL {k : Nat} (hk : zY A o = .stL k) (h : evOp P A ev o s some = some t) : Eff (fun s => evOp P A ev o s some) (yx o s) o s t (.stL k) := by
  have main : ∀ ty x y, o.op = .store ty x y → rootOf A x = some k → Eff (fun s => evOp P A ev o s some) (yx o s) o s t (.stL k) := fun ty x y ho hr => by
    obtain ⟨av, v, ha, hg, hst, hall⟩ := Vy ho h
    have hx : ∃ off, av = .l k off := by
      unfold onlyS at hg
      have h3 := (Bool.and_eq_true_iff.1 hg).2
      unfold onlyR at h3
      rw [hr] at h3
      simp only at h3
      split at h3
      · exact ⟨_, by rw [Nat.eq_of_beq_eq_true h3]⟩
      · cases h3
    obtain ⟨off, rfl⟩ := hx
    rw [yw] at hst
    simp only at hst
    simp only [Option.bind_eq_some_iff] at hst
    obtain ⟨b, hb, cs0, rfl, cs', hcs, hst⟩ := hst
    cases hst
    refine ⟨.no, fun _ => .no, [], cs', trivial, rfl, fun s2 h2 hl _ => ?_⟩
    show evOp P A ev o s2 some = _
    have hl' : s2.lo.get k = s.lo.get k := hl
    rw [hall s2 h2, yw]
    simp only [hl', hb, Option.bind_some, hcs]
    rfl
  unfold zY at hk
  split at hk
  case h_11 ty x y ho =>
    split at hk
    · rename_i k' hr; cases hk; exact main ty x y ho hr
    · exfalso; (try simp only [zZ] at hk); repeat' (first | cases hk | split at hk)
  all_goals (exfalso; (try simp only [zZ] at hk); repeat' (first | cases hk | split at hk))
theorem eff_stH (hk : zY A o = .stH) (h : evOp P A ev o s some = some t) : Eff (fun s => evOp P A ev o s some) (yx o s) o s t .stH := by
  have main : ∀ ty d y, o.op = .store ty (.tmp d) y → A.hst.contains d = true → Eff (fun s => evOp P A ev o s some) (yx o s) o s t .stH := fun ty d y ho hr => by
    obtain ⟨av, v, ha, hg, hst, hall⟩ := Vy ho h
    have h3 : onlyH A (.tmp d) av = true := (Bool.and_eq_true_iff.1 hg).1
    simp only [onlyH, hr, Bool.not_true, Bool.false_or] at h3
    have hst2 := hst
    rw [yw] at hst2
    cases av with
    | v av =>
      cases av with
      | agg l => cases hst2
      | sc p =>
        obtain ⟨id, off, rfl, hst2⟩ := asP_some.1 hst2
        obtain ⟨h', hh, hst2⟩ := oB hst2
        cases hst2
        refine ⟨.no, fun _ => .no, h', [], trivial, rfl, fun s2 h2 _ hl => ?_⟩
        show evOp P A ev o s2 some = _
        have hl' : s2.h = s.h := hl
        rw [hall s2 h2, yw]
        simp only [asP, hl', hh, Option.bind_some]
        rfl
    | _ => cases h3
  unfold zY at hk
  split at hk
  case h_11 ty x y ho =>
    split at hk
    · cases hk
    · split at hk
      · rename_i d hr
        cases h2 : A.hst.contains d <;> rw [h2] at hk
        · cases hk
        · exact main ty d y ho h2
      · cases hk
  all_goals (exfalso; (try simp only [zZ] at hk); repeat' (first | cases hk | split at hk))
theorem eff_alloc (hk : zY A o = .alloc) (h : evOp P A ev o s some = some t) : Eff (fun s => evOp P A ev o s some) (yx o s) o s t .alloc := by
  unfold zY at hk
  split at hk
  case h_12 ty n ps ho =>
    split at hk
    · rename_i d hd
      cases hl : A.loc.contains d <;> rw [hl] at hk
      · unfold evOp at h
        rw [ho] at h
        simp only [setK_eq, hd, Option.bind_some, hl, cond_false] at h
        obtain ⟨e, he, h⟩ := oB h
        obtain ⟨z, hz, h⟩ := oB h
        obtain ⟨hg, h⟩ := gB.1 h
        obtain ⟨vs, hvs, h⟩ := oB h
        obtain ⟨cs, hcs, h⟩ := oB h
        cases h
        refine ⟨.no, fun q => .v (.sc (.sl q 0 n)), [.row true e cs], [], trivial, by rw [hd]; rfl, fun s2 h2 _ _ => ?_⟩
        show evOp P A ev o s2 some = _
        have e1 : evParts s2 ps.toList = some vs := (YI fun y hy => h2 y.2 (by rw [ho]; simp only [Op.operands, List.mem_toArray, List.mem_map]; exact ⟨y, hy, rfl⟩)).trans hvs
        unfold evOp
        rw [ho]
        simp only [setK_eq, hd, Option.bind_some, hl, cond_false, he, hz, hg, guardB, cond_true, e1, hcs]
        rfl
      · cases hk
    · cases hk
  case h_13 ty lo mo ho =>
    unfold evOp at h
    rw [ho] at h
    simp only [setK_eq] at h
    obtain ⟨e, he', h⟩ := oB h
    obtain ⟨z, hz, h⟩ := oB h
    obtain ⟨lv, hl, h1⟩ := oB h
    obtain ⟨mv, hmv, h2⟩ := oB h1
    clear h h1
    have h := h2
    clear h2
    split at h
    · rename_i l m
      obtain ⟨hgd, h⟩ := gB.1 h
      cases h
      refine ⟨.no, fun q => .v (.sc (.sl q 0 l.toNat)), [.row true e (rep l.toNat z)], [], trivial, rfl, fun s2 h2 _ _ => ?_⟩
      show evOp P A ev o s2 some = _
      have g1 := (xS (h2 lo (by rw [ho]; simp [Op.operands]))).trans hl
      have g2 := (xS (h2 mo (by rw [ho]; simp [Op.operands]))).trans hmv
      unfold evOp
      rw [ho]
      simp only [setK_eq, he', hz, g1, g2, Option.bind_some, hgd, guardB, cond_true]
      rfl
    · cases h
  all_goals (exfalso; (try simp only [zZ] at hk); repeat' (first | cases hk | split at hk))
noncomputable def ZI (P : Program) (A : FAn) (ev : Ev) (ty : TypeId) (f : Operand) (args : List Operand) (s : St) (h : AH) : Option (SV × AH) := (evV s f).bind fun f => asSc f fun f => asF f fun g nf sh cs => (evVs s args).bind fun as =>
      (spread sh cs).bind fun vs => callK A ev g (vs.take nf ++ as ++ vs.drop nf) h fun rs h => typed P ty rs fun v => some (v, h)
theorem Zf {f : Operand} {args : Array Operand} {ts : Array TypeId} (ho : o.op = .call { callee := .value f, args := args, argTypes := ts }) (s : St) : evOp P A ev o s some = (ZI P A ev o.type f args.toList s s.h).bind fun p => some (setSl { s with h := p.2 } o.dst p.1) := by
  unfold evOp ZI
  rw [ho]
  simp only [setK_eq, Option.bind_assoc, xh, VR, wN, YL, Option.bind_some]
theorem callG_of {f : Operand} {args : Array Operand} {ts : Array TypeId} (ho : o.op = .call { callee := .value f, args := args, argTypes := ts }) {s2 : St} (h2 : yx o s s2) {ty : TypeId} {h : AH} : ZI P A ev ty f args.toList s2 h = ZI P A ev ty f args.toList s h := by
  unfold ZI
  rw [xS (h2 f (by rw [ho]; simp [Op.operands, Call.operands])), evVs_of (fun y hy => h2 y (by rw [ho]; simp [Op.operands, Call.operands, Array.mem_toList_iff.1 hy]))]
theorem QB {f : Operand} {args : Array Operand} {ts : Array TypeId} (ho : o.op = .call { callee := .value f, args := args, argTypes := ts }) (h : evOp P A ev o s some = some t) : Eff (fun s => evOp P A ev o s some) (yx o s) o s t .call := by
  rw [Zf ho] at h
  obtain ⟨⟨v, h'⟩, hv, h⟩ := oB h
  cases h
  refine ⟨v, fun _ => v, h', [], trivial, rfl, fun s2 h2 _ hl => ?_⟩
  show evOp P A ev o s2 some = _
  have hl' : s2.h = s.h := hl
  rw [Zf ho, callG_of ho h2, hl', hv]
  rfl
end Go.AM
namespace Go.AM
def YQ (f : Nat → Nat) : Fn → Fn
  | .yield id => .yield (f id)
  | g => g
mutual
def Sc.ren (f : Nat → Nat) : Sc → Sc
  | .ptr id o => .ptr (f id) o
  | .sl id o n => .sl (f id) o n
  | .fn g nf sh cs => .fn (YQ f g) nf sh (Sc.renL f cs)
  | .bool b => .bool b
  | .int k n => .int k n
  | .str s => .str s
  | .nilp => .nilp
  | .nils e => .nils e
  | .nilf => .nilf
  | .nili => .nili
def Sc.renL (f : Nat → Nat) : List Sc → List Sc
  | [] => []
  | c :: r => c.ren f :: Sc.renL f r
end
def AV.ren (f : Nat → Nat) : AV → AV
  | .sc s => .sc (s.ren f)
  | .agg cs => .agg (Sc.renL f cs)
def SV.ren (f : Nat → Nat) : SV → SV
  | .u => .u
  | .no => .no
  | .v a => .v (a.ren f)
  | .t vs => .t (vs.map (AV.ren f))
  | .l k o => .l k o
  | .s k n => .s k n
mutual
theorem Sc.ren_id : ∀ (s : Sc), s.ren (fun i => i) = s
  | .ptr _ _ => rfl
  | .sl _ _ _ => rfl
  | .fn g _ _ cs => by
    have e : YQ (fun i => i) g = g := by cases g <;> rfl
    rw [Sc.ren, Sc.renL_id cs, e]
  | .bool _ => rfl
  | .int _ _ => rfl
  | .str _ => rfl
  | .nilp => rfl
  | .nils _ => rfl
  | .nilf => rfl
  | .nili => rfl
theorem Sc.renL_id : ∀ (l : List Sc), Sc.renL (fun i => i) l = l
  | [] => rfl
  | c :: r => by rw [Sc.renL, Sc.ren_id c, Sc.renL_id r]
end
theorem AV.ren_id (v : AV) : v.ren (fun i => i) = v := by
  cases v with
  | sc s => rw [AV.ren, Sc.ren_id]
  | agg cs => rw [AV.ren, Sc.renL_id]
theorem AV.renL_id (l : List AV) : l.map (AV.ren fun i => i) = l := by
  rw [List.map_congr_left (g := id) (fun v _ => AV.ren_id v), List.map_id]
def FrEv (A : FAn) (ev : Ev) : Prop := ∀ n m, (A.fr.any fun p => Nat.beq p.1 n && Nat.beq p.2 m) = true → ∀ as h rs h', as.length = m → ev (.func n) as h = some (rs, h') → h' = h ∧ ∀ (f : Nat → Nat) (h2 : AH), ev (.func n) (as.map (AV.ren f)) h2 = some (rs.map (AV.ren f), h2)
end Go.AM
namespace Go.AM
open Go.RowKit
variable {P : Program} {A : FAn} {ev : Ev} {ops : Array Oper} {o : Oper} {s t : St}
def xk (A : FAn) (ev : Ev) : Prop := (∀ n, A.ro.contains n = true → ∀ as h rs h', ev (.func n) as h = some (rs, h') → h' = h) ∧ FrEv A ev
theorem eff_ro (hr : xk A ev) {n : FuncId} {args : Array Operand} {ts : Array TypeId} (ho : o.op = .call { callee := .value (.func n), args := args, argTypes := ts }) (hn : A.ro.contains n = true) (h : evOp P A ev o s some = some t) : Eff (fun s => evOp P A ev o s some) (yx o s) o s t .ro := by
  have h0 := h
  rw [Zf ho] at h
  obtain ⟨⟨v, h'⟩, hv, h⟩ := oB h
  cases h
  have hh : h' = s.h := by
    unfold ZI at hv
    simp only [evV, evA, Option.bind_some, SV.val, asSc, asF] at hv
    obtain ⟨as, _, hv⟩ := oB hv
    obtain ⟨vs, _, hv⟩ := oB hv
    have ty : ∀ {rs : List AV} {h1 : AH}, (typed P o.type rs fun v => some (v, h1)) = some (v, h') → h' = h1 := by
      intro rs h1 hq
      have e := YL (fun v : SV => some (v, h1)) P o.type rs some
      simp only [Option.bind_some] at e
      rw [← e] at hq
      obtain ⟨_, _, hq⟩ := oB hq
      cases hq; rfl
    unfold callK at hv
    simp only at hv
    rcases cond_some.1 hv with ⟨_, hv⟩ | ⟨_, hv⟩
    · split at hv
      · exact ty (gB.1 (gB.1 hv).2).2
      · obtain ⟨p, _, hv⟩ := oB hv
        exact ty (gB.1 hv).2
    · obtain ⟨⟨rs, h1⟩, hp, hv⟩ := oB hv
      rw [ty hv]
      exact hr.1 n hn _ _ _ _ hp
  subst hh
  refine ⟨v, fun _ => v, [], [], trivial, rfl, fun s2 h2 _ hl => ?_⟩
  show evOp P A ev o s2 some = _
  have hl' : s2.h = s.h := hl
  rw [Zf ho, callG_of ho h2, hl', hv]
  show some (setSl { s2 with h := s.h } o.dst v) = _
  rw [← hl']
  rfl
noncomputable def VU (P : Program) (A : FAn) (ts : List TypeId) (args : List Operand) (s : St) : Option (SV × AH) := builtinK P A .append ts args s fun v s' => some (v, s'.h)
theorem app_eq {args : Array Operand} {ts : Array TypeId} (ho : o.op = .call { callee := .builtin .append, args := args, argTypes := ts }) (s : St) : evOp P A ev o s some = (VU P A ts.toList args.toList s).bind fun p => some (setSl { s with h := p.2 } o.dst p.1) := by
  unfold evOp VU
  rw [ho]
  simp only [setK_eq]
  unfold builtinK
  split <;> first
    | (simp only [Option.bind_assoc, zm, We, Ye, Yo, WU, Option.bind_some]; done)
    | rfl
    | (rename_i h _ _; cases h; done)
    | (rename_i h _; cases h; done)
    | (rename_i h; cases h; done)
    | skip
theorem appG_of {args : Array Operand} {ts : Array TypeId} (ho : o.op = .call { callee := .builtin .append, args := args, argTypes := ts }) {s2 : St} (h2 : yx o s s2) (hl : s2.lo = s.lo) (hh : s2.h = s.h) : VU P A ts.toList args.toList s2 = VU P A ts.toList args.toList s := by
  have ea : ∀ y ∈ args.toList, evA s2 y = evA s y := fun y hy => h2 y (by rw [ho]; simp [Op.operands, Call.operands, Array.mem_toList_iff.1 hy])
  have ef : ∀ {R : Type} (a : SV) (n z : Nat) (c : List Sc → Option R), firstA s2 a n z c = firstA s a n z c := fun a n z c => by unfold firstA; rw [hl, hh]
  unfold VU builtinK
  split <;> first
    | exact absurd ‹Builtin.append = Builtin.len› (by intro e; cases e)
    | exact absurd ‹Builtin.append = Builtin.max› (by intro e; cases e)
    | exact absurd ‹Builtin.append = Builtin.min› (by intro e; cases e)
    | exact absurd ‹Builtin.append = Builtin.copy› (by intro e; cases e)
    | (rename_i x y _ _ ha; have e1 := ea x (by rw [ha]; simp); have e2 := ea y (by rw [ha]; simp); simp only [e1, e2, ef, hh]; done)
    | (rename_i x y _ ha _; have e1 := ea x (by rw [ha]; simp); have e2 := ea y (by rw [ha]; simp); simp only [e1, e2, ef, hh]; done)
    | rfl
theorem app_box {ts : List TypeId} {args : List Operand} {v : SV} {h' : AH} (h : VU P A ts args s = some (v, h')) : ∀ id, boxOk s.h id = true → h'[id]? = s.h[id]? := by
  have lt : ∀ {id : Nat}, boxOk s.h id = true → id < s.h.length := fun {id} hb => by
    unfold boxOk at hb
    cases hq : s.h[id]? with
    | none => rw [hq] at hb; cases hb
    | some o => exact (List.getElem?_eq_some_iff.1 hq).1
  unfold VU builtinK at h
  split at h
  · exact absurd ‹Builtin.append = Builtin.len› (by intro e; cases e)
  · exact absurd ‹Builtin.append = Builtin.max› (by intro e; cases e)
  · exact absurd ‹Builtin.append = Builtin.min› (by intro e; cases e)
  · obtain ⟨_, _, h⟩ := oB h
    obtain ⟨_, _, h⟩ := oB h
    obtain ⟨_, h⟩ := gB.1 h
    obtain ⟨xv, _, h⟩ := oB h
    have e := We (some : SV × AH → Option (SV × AH))
    have fin : ∀ {xs : Sc} {e z n : Nat} {new : List Sc}, (appendS s.h e z xs new n fun v h => some (SV.v (.sc v), h)) = some (v, h') → ∀ id, boxOk s.h id = true → h'[id]? = s.h[id]? := by
      intro xs e z n new h id hb
      unfold appendS at h
      split at h
      · obtain ⟨_, h⟩ := gB.1 h; cases h; rfl
      · split at h
        · obtain ⟨_, h⟩ := gB.1 h; cases h
          exact List.getElem?_append_left (lt hb)
        · rename_i id2 off len
          obtain ⟨ob, hob, h⟩ := oB h
          split at h
          · obtain ⟨_, h⟩ := gB.1 h; cases h
            rw [List.getElem?_append_left (by simp; exact lt hb)]
            refine List.getElem?_set_ne fun e => ?_
            subst e
            unfold boxOk at hb
            rw [hob] at hb
            cases hb
          · cases h
        · cases h
    have l1 : ∀ {yv : SV} {c : Nat → Option (SV × AH)} {r : SV × AH}, lenA yv c = some r → ∃ n, c n = some r := by
      intro yv c r h; unfold lenA at h; split at h
      · exact ⟨_, h⟩
      · exact ⟨_, (gB.1 h).2⟩
      · cases h
    have l2 : ∀ {yv : SV} {m z : Nat} {c : List Sc → Option (SV × AH)} {r : SV × AH}, firstA s yv m z c = some r → ∃ n, c n = some r := by
      intro yv m z c r h; rw [xe] at h; split at h
      · simp only [Option.bind_eq_some_iff] at h; obtain ⟨_, _, _, _, l, _, h⟩ := h; exact ⟨_, h⟩
      · split at h
        · exact ⟨_, (gB.1 h).2⟩
        · obtain ⟨_, _, _, _, h⟩ := asS_some.1 h; obtain ⟨l, _, h⟩ := oB h; exact ⟨_, h⟩
      · cases h
    have rest : ∀ {xs : Sc} {y : Operand} {e z : Nat}, ((evA s y).bind fun a => lenA a fun n => firstA s a n z fun new => appendS s.h e z xs new n fun v h => some (SV.v (.sc v), h)) = some (v, h') → ∀ id, boxOk s.h id = true → h'[id]? = s.h[id]? := by
      intro xs y e z h
      obtain ⟨yv, _, h⟩ := oB h
      obtain ⟨n, h⟩ := l1 h
      obtain ⟨new, h⟩ := l2 h
      exact fin h
    rcases YK h with ⟨_, _, _, _, _, h⟩ | ⟨_, _, h⟩
    · exact rest h
    · exact rest h
  · exact absurd ‹Builtin.append = Builtin.copy› (by intro e; cases e)
  · cases h
theorem eff_app {args : Array Operand} {ts : Array TypeId} (ho : o.op = .call { callee := .builtin .append, args := args, argTypes := ts }) (h : evOp P A ev o s some = some t) : Eff (fun s => evOp P A ev o s some) (yx o s) o s t .app := by
  rw [app_eq ho] at h
  obtain ⟨⟨v, h'⟩, hv, h⟩ := oB h
  cases h
  refine ⟨v, fun _ => v, h', [], app_box hv, rfl, fun s2 h2 hl hh => ?_⟩
  show evOp P A ev o s2 some = _
  rw [app_eq ho, appG_of ho h2 hl hh, hv]
  rfl
theorem eff_op (hr : xk A ev) (hk : zY A o ≠ .other) (h : evOp P A ev o s some = some t) : Eff (fun s => evOp P A ev o s some) (yx o s) o s t (zY A o) := by
  cases hq : zY A o with
  | slots => exact eff_slots hq h
  | ldL k => exact eff_ldL hq h
  | ldH => exact eff_ldH hq h
  | ldB => exact eff_ldB hq h
  | stL k => exact eff_stL hq h
  | stH => exact eff_stH hq h
  | alloc => exact eff_alloc hq h
  | other => exact absurd hq hk
  | app =>
    unfold zY at hq
    split at hq
    case h_14 args ts ho => exact eff_app ho h
    all_goals (exfalso; (try simp only [zZ] at hq); repeat' (first | cases hq | split at hq))
  | ro =>
    unfold zY at hq
    split at hq
    case h_15 n args ts ho =>
      cases hn : A.ro.contains n <;> rw [hn] at hq
      · cases hq
      · exact eff_ro hr ho hn h
    all_goals (exfalso; (try simp only [zZ] at hq); repeat' (first | cases hq | split at hq))
  | call =>
    unfold zY at hq
    split at hq
    case h_15 n args ts ho => exact QB ho h
    case h_16 ho => exact QB ho h
    all_goals (exfalso; (try simp only [zZ] at hq); repeat' (first | cases hq | split at hq))
theorem Tt (hr : xk A ev) (hk : zY A o ≠ .other) (h : zf P A ev ops o s = some t) : Eff (zf P A ev ops o) (Sees ops o s) o s t (zY A o) ∨ Eff (zf P A ev ops o) (Sees ops o s) o s t .slots := by
  have skip : (∀ s2, Sees ops o s s2 → zf P A ev ops o s2 = some (setSl s2 o.dst .no)) → t = setSl s o.dst .no → Eff (zf P A ev ops o) (Sees ops o s) o s t .slots := fun hall ht => ⟨.no, fun _ => .no, [], [], trivial, ht, fun s2 h2 _ _ => hall s2 h2⟩
  cases hg : o.guard with
  | none =>
    have e : ∀ s2, zf P A ev ops o s2 = evOp P A ev o s2 some := fun s2 => by unfold zf; rw [hg]
    rw [e] at h
    exact .inl (Eff.imp (fun s2 h2 => ⟨h2.opd, e s2⟩) (eff_op hr hk h))
  | some p =>
    obtain ⟨j, w⟩ := p
    cases hj : (ops[j]?).bind (·.dst) with
    | none => unfold zf at h; rw [hg] at h; simp only [hj] at h; cases h
    | some g =>
      have hl : g ∈ o.looksAt ops := by simp [Oper.looksAt, hg, hj]
      have e : ∀ s2, zf P A ev ops o s2 = (s2.sl.get g).bind fun g => match g with
          | .v (.sc (.bool t)) => if t = w then evOp P A ev o s2 some else some (setSl s2 o.dst .no)
          | .no => some (setSl s2 o.dst .no)
          | _ => none := fun s2 => by unfold zf; rw [hg]; simp only [hj, Option.bind_some] <;> rfl
      have e2 : ∀ s2, Sees ops o s s2 → zf P A ev ops o s2 = (s.sl.get g).bind fun g => match g with
          | .v (.sc (.bool t)) => if t = w then evOp P A ev o s2 some else some (setSl s2 o.dst .no)
          | .no => some (setSl s2 o.dst .no)
          | _ => none := fun s2 h2 => by rw [e, h2 g hl]
      have hs : Sees ops o s s := fun _ _ => rfl
      rw [e2 s hs] at h
      cases hv : s.sl.get g with
      | none => rw [hv] at h; cases h
      | some x =>
        rw [hv] at h
        simp only [hv, Option.bind_some] at h e2
        split at h
        · rename_i b
          by_cases hb : b = w
          · rw [if_pos hb] at h
            exact .inl (Eff.imp (fun s2 h2 => ⟨h2.opd, by rw [e2 s2 h2]; simp only; rw [if_pos hb]⟩) (eff_op hr hk h))
          · rw [if_neg hb] at h
            cases h
            exact .inr (skip (fun s2 h2 => by rw [e2 s2 h2]; simp only; rw [if_neg hb]) rfl)
        · cases h
          exact .inr (skip (fun s2 h2 => by rw [e2 s2 h2]) rfl)
        · cases h
theorem swapK {x y : Oper} (hr : xk A ev) (hc : kdOk A ops x y = true) {s s1 s2 : St} (h1 : zf P A ev ops x s = some s1) (h2 : zf P A ev ops y s1 = some s2) : ∃ t, zf P A ev ops y s = some t ∧ zf P A ev ops x t = some s2 := by
  unfold kdOk at hc
  obtain ⟨hk, hap⟩ := Bool.and_eq_true_iff.1 hc
  have nx : zY A x ≠ .other := fun e => by rw [e] at hk; cases hk
  have ny : zY A y ≠ .other := fun e => by rw [e] at hk; revert hk; cases zY A x <;> simp [wn]
  have sy : wn (zY A x) .slots = true := by revert nx; cases zY A x <;> simp [wn]
  have sx : wn .slots (zY A y) = true := by revert ny; cases zY A y <;> simp [wn]
  rcases Tt hr nx h1 with ex | ex <;> rcases Tt hr ny h2 with ey | ey
  · exact Vr hk hap ex ey
  · exact Vr sy hap ex ey
  · exact Vr sx hap ex ey
  · exact Vr rfl hap ex ey
section
variable {P : Program} {A : FAn} {ev : Ev} {ops : Array Oper}
def UQ : Cl → Cl → Bool
  | .loc, _ => false
  | _, .loc => false
  | .mem, .mem => false
  | .mem, .read => false
  | .read, .mem => false
  | _, _ => true
def UJ (o : Oper) : Bool := match o.op with | .extract _ _ => true | _ => false
def wX (o : Oper) : Bool := match o.op with | .store _ _ _ => true | _ => false
def Uh (A : FAn) (o : Oper) : Bool := match o.op with | .store _ (.tmp d) _ => A.hst.contains d | _ => false
def Wb (o : Oper) : Bool := match o.op with | .load _ _ => true | .slice _ _ _ _ _ => true | _ => false
def ZQ (A : FAn) (o : Oper) : Bool := match o.op with | .call { callee := .builtin .append, args, .. } => (match args.toList with | .tmp d :: _ => A.loc.contains d | _ => false) | _ => false
def isPure : Cl → Bool
  | .pure => true
  | _ => false
def Vb (A : FAn) (ops : Array Oper) (x y : Oper) : Bool := (UQ (zi A x) (zi A y) || (UJ x && wX y) || (isPure (zi A x) && Uh A y) || (Wb x && ZQ A y) || wn (zY A x) (zY A y)) && x.apart ops y
theorem yJ {s : St} {d : Option Tmp} {x : SV} {o : Oper} (hc : zi A o ≠ .loc) (h : ∀ t, d = some t → t ∉ o.looksAt ops) (hd : ∀ t, d = some t → o.dst ≠ some t) (hk : zi A o = .new → ∀ d', o.dst = some d' → killL d' x = x) :
    zf P A ev ops o (setSl s d x) = (zf P A ev ops o s).map fun s' => setSl s' d x := by
  have hop : evOp P A ev o (setSl s d x) some = (evOp P A ev o s some).map fun s' => setSl s' d x := by
    rw [evOp_set hc (fun y hy t ht hyt => h t ht (by
      subst hyt
      exact List.mem_append_left _ (List.mem_filterMap.2 ⟨.tmp t, by simpa using hy, rfl⟩))) hd hk, Yx]
    cases evOp P A ev o s some <;> rfl
  unfold zf
  cases hg : o.guard with
  | none => exact hop
  | some p =>
    obtain ⟨j, w⟩ := p
    simp only
    cases hj : (ops[j]?).bind (·.dst) with
    | none => rfl
    | some g =>
      have hne : ∀ t, d = some t → t ≠ g := fun t ht he => h t ht (by subst he; simp [Oper.looksAt, hg, hj])
      have hs : (setSl s d x).sl.get g = s.sl.get g := by
        cases d with
        | none => rfl
        | some t => simp [setSl, Tr.get_set_ne _ (hne t rfl)]
      simp only [Option.bind_some, hs]
      cases hv : s.sl.get g with
      | none => rfl
      | some v =>
        simp only [Option.bind_some]
        split
        · split
          · exact hop
          · simp only [Option.map_some]; rw [zT hd]
        · simp only [Option.map_some]; rw [zT hd]
        · rfl
theorem wS {s : St} {h : AH} {o : Oper} (hc : zi A o = .pure ∨ zi A o = .new) : zf P A ev ops o { s with h := h } = (zf P A ev ops o s).map fun s' => { s' with h := h } := by
  have hop : evOp P A ev o { s with h := h } some = (evOp P A ev o s some).map fun s' => { s' with h := h } := by
    rw [evOp_heap hc, Yx]
    cases evOp P A ev o s some <;> rfl
  unfold zf
  cases hg : o.guard with
  | none => exact hop
  | some p =>
    obtain ⟨j, w⟩ := p
    simp only
    cases hj : (ops[j]?).bind (·.dst) with
    | none => rfl
    | some g =>
      simp only [Option.bind_some]
      cases hv : s.sl.get g with
      | none => rfl
      | some v =>
        simp only [Option.bind_some]
        split
        · split
          · exact hop
          · simp only [Option.map_some, zV]
        · simp only [Option.map_some, zV]
        · rfl
theorem evOne_putLo {s : St} {k : Nat} {cl : Option (List Sc)} {o : Oper} (hf : yz k s) (hc : zi A o ≠ .loc) (hd : o.dst ≠ some k) : zf P A ev ops o (zP s k cl) = (zf P A ev ops o s).map fun s' => zP s' k cl := by
  have hop : evOp P A ev o (zP s k cl) some = (evOp P A ev o s some).map fun s' => zP s' k cl := by
    rw [evOp_putLo hf hc hd, Yx]
    cases evOp P A ev o s some <;> rfl
  unfold zf
  cases hg : o.guard with
  | none => exact hop
  | some p =>
    obtain ⟨j, w⟩ := p
    simp only
    cases hj : (ops[j]?).bind (·.dst) with
    | none => rfl
    | some g =>
      simp only [Option.bind_some, putLo_sl]
      cases hv : s.sl.get g with
      | none => rfl
      | some v =>
        simp only [Option.bind_some]
        split
        · split
          · exact hop
          · simp only [Option.map_some, zt]
        · simp only [Option.map_some, zt]
        · rfl
theorem yy {s s' : St} {o : Oper} (hc : zi A o ≠ .loc) (hw : zi A o ≠ .new) (h : zf P A ev ops o s = some s') : ZR o s (decide (zi A o = .pure ∨ zi A o = .read)) s' := by
  have skip : some (setSl s o.dst .no) = some s' → ZR o s (decide (zi A o = .pure ∨ zi A o = .read)) s' := fun h => zO h
  unfold zf at h
  split at h
  · exact Qq hc hw h
  · obtain ⟨d, _, h⟩ := oB h
    obtain ⟨g, _, h⟩ := oB h
    split at h
    · split at h
      · exact Qq hc hw h
      · exact skip h
    · exact skip h
    · cases h
theorem Yi {s s' : St} {o : Oper} (hc : zi A o = .new) (h : zf P A ev ops o s = some s') :
    ∃ d, o.dst = some d ∧ ((∃ a z, s' = newLocal s d a z ∧ ∀ k, k ≠ d → isRef k a = false ∧ killL k a = a) ∨ s' = setSl s (some d) .no) := by
  have hd : ∃ d, o.dst = some d := by
    cases hd : o.dst with
    | some d => exact ⟨d, rfl⟩
    | none =>
      exfalso
      unfold zi at hc
      simp only [hd] at hc
      split at hc <;> first | cases hc | (split at hc <;> cases hc) | (rename_i d _; cases hl : A.loc.contains d <;> rw [hl] at hc <;> cases hc)
  obtain ⟨d, hd⟩ := hd
  have take : evOp P A ev o s some = some s' → ∃ d, o.dst = some d ∧ ((∃ a z, s' = newLocal s d a z ∧ ∀ k, k ≠ d → isRef k a = false ∧ killL k a = a) ∨ s' = setSl s (some d) .no) := by
    intro h
    obtain ⟨d, a, z, h1, h2, h3⟩ := evOp_new hc h
    exact ⟨d, h1, .inl ⟨a, z, h2, h3⟩⟩
  have skip : some (setSl s o.dst .no) = some s' → ∃ d, o.dst = some d ∧ ((∃ a z, s' = newLocal s d a z ∧ ∀ k, k ≠ d → isRef k a = false ∧ killL k a = a) ∨ s' = setSl s (some d) .no) := by
    intro h
    cases h
    exact ⟨d, hd, .inr (by rw [hd])⟩
  unfold zf at h
  split at h
  · exact take h
  · obtain ⟨d, _, h⟩ := oB h
    obtain ⟨g, _, h⟩ := oB h
    split at h
    · split at h
      · exact take h
      · exact skip h
    · exact skip h
    · cases h
theorem Yz (s : St) {h : AH} (e : h = s.h) : ({ s with h := h } : St) = s := by subst e; rfl
theorem Yj {k : Nat} {s : St} (hf : yz k s) {d : Option Tmp} {v : SV} (hv : isRef k v = false) {h : AH} : yz k (setSl { s with h := h } d v) := by
  intro i x hx
  cases d with
  | none => exact hf i x hx
  | some d =>
    simp only [setSl] at hx
    by_cases e : d = i
    · subst e
      rw [Tr.get_set_self] at hx
      obtain ⟨_, _, rfl⟩ := oM hx
      exact hv
    · rw [Tr.get_set_ne _ e] at hx; exact hf i x hx
theorem isRef_kill {k d : Nat} {x : SV} (h : isRef k x = false) : isRef k (killL d x) = false := by
  cases x with
  | l j o => simp only [killL]; cases Nat.beq j d <;> first | rfl | exact h
  | s j n => simp only [killL]; cases Nat.beq j d <;> first | rfl | exact h
  | _ => exact h
theorem WJ {k : Nat} {x : SV} (h : isRef k x = false) : killL k x = x := by
  cases x with
  | l j o => have h' : Nat.beq j k = false := h; simp only [killL, h'] <;> rfl
  | s j n => have h' : Nat.beq j k = false := h; simp only [killL, h'] <;> rfl
  | _ => rfl
theorem Te {k : Nat} {s : St} (hf : yz k s) {a : SV} {z : List Sc} : newLocal s k a z = zP (setSl s (some k) a) k (some z) := by
  simp only [newLocal, zP, setSl, Tr.map_id' (fun i v hv => WJ (hf i v hv))]
theorem fresh_one {k : Nat} {s s' : St} {o : Oper} (hf : yz k s) (hc : zi A o ≠ .loc) (hd : o.dst ≠ some k) (h : zf P A ev ops o s = some s') : yz k s' := by
  by_cases hn : zi A o = .new
  · obtain ⟨d, hdst, hcase⟩ := Yi hn h
    have hne : k ≠ d := fun e => hd (by rw [hdst, e])
    rcases hcase with ⟨a, z, rfl, ha⟩ | rfl
    · intro i x hx
      simp only [newLocal] at hx
      by_cases e : d = i
      · subst e
        rw [Tr.get_set_self] at hx
        obtain ⟨_, _, rfl⟩ := oM hx
        exact (ha k hne).1
      · rw [Tr.get_set_ne _ e, Tr.get_map] at hx
        obtain ⟨y, hy, rfl⟩ := oM hx
        exact isRef_kill (hf i y hy)
    · exact Yj (h := s.h) hf rfl
  · obtain ⟨⟨v, H, rfl, hv⟩, _⟩ := yy hc hn h
    exact Yj hf (hv k hf)
noncomputable def upd (d : Nat) (a : SV) (oz : Option (List Sc)) (s : St) : St :=
  match oz with
  | some z => setSl (zP s d (some z)) (some d) a
  | none => setSl s (some d) a
theorem Vg {s : St} {d : Nat} {a : SV} {oz : Option (List Sc)} {o : Oper} (hf : yz d s) (hc : zi A o ≠ .loc) (hb : d ∉ o.looksAt ops) (hd : o.dst ≠ some d) (hk : zi A o = .new → ∀ d', o.dst = some d' → killL d' a = a) :
    zf P A ev ops o (upd d a oz s) = (zf P A ev ops o s).map (upd d a oz) := by
  have b : ∀ t, some d = some t → t ∉ o.looksAt ops := fun t ht => by cases ht; exact hb
  have dd : ∀ t, some d = some t → o.dst ≠ some t := fun t ht => by cases ht; exact hd
  cases oz with
  | none =>
    show zf P A ev ops o (setSl s (some d) a) = _
    rw [yJ hc b dd hk]; rfl
  | some z =>
    show zf P A ev ops o (setSl (zP s d (some z)) (some d) a) = _
    rw [yJ hc b dd hk, evOne_putLo hf hc hd]
    cases zf P A ev ops o s <;> rfl
theorem YJ {s s' : St} {o : Oper} (hc : zi A o = .new) (hf : ∀ d, o.dst = some d → yz d s) (h : zf P A ev ops o s = some s') :
    ∃ d a oz, o.dst = some d ∧ s' = upd d a oz s ∧ ∀ k, k ≠ d → isRef k a = false ∧ killL k a = a := by
  obtain ⟨d, hd, hcase⟩ := Yi hc h
  rcases hcase with ⟨a, z, rfl, ha⟩ | rfl
  · refine ⟨d, a, some z, hd, ?_, ha⟩
    rw [Te (hf d hd), ← zt]; rfl
  · exact ⟨d, .no, none, hd, rfl, fun _ _ => ⟨rfl, rfl⟩⟩
theorem TP {s : St} {d : Nat} {a : SV} {oz : Option (List Sc)} {e : Option Tmp} {v : SV} {h : AH} (hne : e ≠ some d) : upd d a oz (setSl { s with h := h } e v) = setSl { upd d a oz s with h := h } e v := by
  have c : ∀ s' : St, setSl (setSl s' e v) (some d) a = setSl (setSl s' (some d) a) e v := fun s' => zT (fun t ht => by rintro ⟨⟩; exact hne ht)
  cases oz with
  | none => show setSl (setSl _ e v) (some d) a = _; rw [c]; rfl
  | some z =>
    show setSl (zP (setSl { s with h := h } e v) d (some z)) (some d) a = _
    rw [← zt, c]; rfl
theorem upd_comm {s : St} {d d' : Nat} {a a' : SV} {oz oz' : Option (List Sc)} (hne : d ≠ d') : upd d a oz (upd d' a' oz' s) = upd d' a' oz' (upd d a oz s) := by
  cases oz <;> cases oz' <;> simp only [upd, setSl, zP, Tr.set_comm (Ne.symm hne)]
theorem Uo {s s' : St} {sv : SV} {v : List Sc} (h : storeAt s sv v some = some s') : s'.sl = s.sl := by
  rw [yw] at h
  split at h
  · simp only [Option.bind_eq_some_iff] at h
    obtain ⟨_, _, _, _, _, _, h⟩ := h
    cases h; rfl
  · obtain ⟨_, _, _, h⟩ := asP_some.1 h
    simp only [Option.bind_eq_some_iff] at h
    obtain ⟨_, _, h⟩ := h
    cases h; rfl
  · cases h
theorem evOne_slots {s : St} {lo : Tr (Option (List Sc))} {h : AH} {o : Oper} (hc : UJ o = true) : zf P A ev ops o { s with lo := lo, h := h } = (zf P A ev ops o s).map fun s' => { s' with lo := lo, h := h } := by
  have hs : ∀ (d : Option Tmp) (v : SV), setSl { s with lo := lo, h := h } d v = { setSl s d v with lo := lo, h := h } := fun d v => by cases d <;> rfl
  have hop : evOp P A ev o { s with lo := lo, h := h } some = (evOp P A ev o s some).map fun s' => { s' with lo := lo, h := h } := by
    unfold UJ at hc
    split at hc
    · rename_i x i ho
      unfold evOp
      rw [ho]
      simp only [setK_eq]
      rw [show evA { s with lo := lo, h := h } x = evA s x by cases x <;> rfl]
      cases evA s x with
      | none => rfl
      | some v =>
        simp only [Option.bind_some]
        split
        · simp only [hs]
          rename_i vs
          cases h1 : vs[i]? <;> rfl
        · rfl
    · cases hc
  unfold zf
  cases hg : o.guard with
  | none => exact hop
  | some p =>
    obtain ⟨j, w⟩ := p
    simp only
    cases hj : (ops[j]?).bind (·.dst) with
    | none => rfl
    | some g =>
      simp only [Option.bind_some]
      cases hv : s.sl.get g with
      | none => rfl
      | some v =>
        simp only [Option.bind_some]
        split
        · split
          · exact hop
          · simp only [Option.map_some, hs]
        · simp only [Option.map_some, hs]
        · rfl
theorem VB {s : St} {d : Option Tmp} {x : SV} {a : SV} {v : List Sc} : storeAt (setSl s d x) a v some = (storeAt s a v some).map fun s' => setSl s' d x := by
  rw [yw, yw]
  split
  · simp only [ww]
    cases s.lo.get _ with
    | none => rfl
    | some b =>
      cases b with
      | none => rfl
      | some cs =>
        simp only [Option.bind_some]
        cases put cs _ v with
        | none => rfl
        | some cs' => cases d <;> rfl
  · simp only [zw]
    rename_i p
    cases p <;> try rfl
    rename_i id off
    simp only [asP]
    cases st s.h id off v with
    | none => rfl
    | some h => cases d <;> rfl
  · rfl
theorem Yg {s : St} {d : Option Tmp} {x : SV} {o : Oper} (hc : wX o = true) (h : ∀ t, d = some t → t ∉ o.looksAt ops) (hd : ∀ t, d = some t → o.dst ≠ some t) :
    zf P A ev ops o (setSl s d x) = (zf P A ev ops o s).map fun s' => setSl s' d x := by
  have hop : evOp P A ev o (setSl s d x) some = (evOp P A ev o s some).map fun s' => setSl s' d x := by
    unfold wX at hc
    split at hc
    · rename_i t a y ho
      have hl : ∀ z ∈ [a, y], ∀ u, d = some u → z ≠ .tmp u := by
        intro z hz u hu e
        subst e
        refine h u hu (List.mem_append_left _ (List.mem_filterMap.2 ⟨.tmp u, ?_, rfl⟩))
        rw [ho]; simpa [Op.operands] using hz
      unfold evOp
      rw [ho]
      simp only [setK_eq]
      rw [yH (hl a (by simp)), zR (hl y (by simp))]
      unfold guardB
      cases (P.info? t).isSome with
      | false => rfl
      | true =>
        simp only [cond_true]
        cases evA s a with
        | none => rfl
        | some av =>
          simp only [Option.bind_some]
          cases evV s y with
          | none => rfl
          | some v =>
            simp only [Option.bind_some]
            cases (Nat.beq v.cells.length (P.cellsOf t) && onlyS A a av) with
            | false => rfl
            | true =>
              simp only [cond_true]
              have e := xj (fun s' => some (setSl s' o.dst .no)) (setSl s d x) av v.cells some
              have e' := xj (fun s' => some (setSl s' o.dst .no)) s av v.cells some
              simp only [Option.bind_some] at e e'
              rw [← e, ← e', VB]
              cases storeAt s av v.cells some with
              | none => rfl
              | some s1 => simp only [Option.map_some, Option.bind_some]; rw [zT hd]
    · cases hc
  unfold zf
  cases hg : o.guard with
  | none => exact hop
  | some p =>
    obtain ⟨j, w⟩ := p
    simp only
    cases hj : (ops[j]?).bind (·.dst) with
    | none => rfl
    | some g =>
      have hne : ∀ t, d = some t → t ≠ g := fun t ht he => h t ht (by subst he; simp [Oper.looksAt, hg, hj])
      have hs : (setSl s d x).sl.get g = s.sl.get g := by
        cases d with
        | none => rfl
        | some t => simp [setSl, Tr.get_set_ne _ (hne t rfl)]
      simp only [Option.bind_some, hs]
      cases hv : s.sl.get g with
      | none => rfl
      | some v =>
        simp only [Option.bind_some]
        split
        · split
          · exact hop
          · simp only [Option.map_some]; rw [zT hd]
        · simp only [Option.map_some]; rw [zT hd]
        · rfl
theorem VI {s t : St} {o : Oper} (hc : wX o = true) (h : zf P A ev ops o s = some t) : ∃ lo h', t = setSl { s with lo := lo, h := h' } o.dst .no := by
  have skip : some (setSl s o.dst .no) = some t → ∃ lo h', t = setSl { s with lo := lo, h := h' } o.dst .no := fun h => ⟨s.lo, s.h, by cases h; rfl⟩
  have take : evOp P A ev o s some = some t → ∃ lo h', t = setSl { s with lo := lo, h := h' } o.dst .no := by
    intro h
    unfold wX at hc
    split at hc
    · rename_i ty a y ho
      unfold evOp at h
      rw [ho] at h
      simp only [setK_eq] at h
      replace h := (gB.1 h).2
      obtain ⟨_, _, h⟩ := oB h
      obtain ⟨_, _, h⟩ := oB h
      replace h := (gB.1 h).2
      obtain ⟨s1, h1, h⟩ := xo h
      cases h
      refine ⟨s1.lo, s1.h, ?_⟩
      have e : s1.sl = s.sl := Uo h1
      cases s1; cases s; simp only at e; subst e; rfl
    · cases hc
  unfold zf at h
  split at h
  · exact take h
  · obtain ⟨d, _, h⟩ := oB h
    obtain ⟨g, _, h⟩ := oB h
    split at h
    · split at h
      · exact take h
      · exact skip h
    · exact skip h
    · cases h
theorem isHst_store {o : Oper} (hc : Uh A o = true) : wX o = true := by
  unfold Uh at hc
  unfold wX
  split at hc
  · rename_i ho; rw [ho]
  · cases hc
theorem Tm {s t : St} {o : Oper} (hc : Uh A o = true) (h : zf P A ev ops o s = some t) : ∃ h', t = setSl { s with h := h' } o.dst .no := by
  have skip : some (setSl s o.dst .no) = some t → ∃ h', t = setSl { s with h := h' } o.dst .no := fun h => ⟨s.h, by cases h; rfl⟩
  have take : evOp P A ev o s some = some t → ∃ h', t = setSl { s with h := h' } o.dst .no := by
    intro h
    unfold Uh at hc
    split at hc
    · rename_i ty d y ho
      unfold evOp at h
      rw [ho] at h
      simp only [setK_eq] at h
      replace h := (gB.1 h).2
      obtain ⟨av, _, h⟩ := oB h
      obtain ⟨_, _, h⟩ := oB h
      obtain ⟨hg, h⟩ := gB.1 h
      have hg2 : onlyH A (.tmp d) av = true := (Bool.and_eq_true_iff.1 (Bool.and_eq_true_iff.1 hg).2).1
      simp only [onlyH, hc, Bool.not_true, Bool.false_or] at hg2
      clear hg
      rw [yw] at h
      cases av with
      | v av =>
        cases av with
        | agg l => cases h
        | sc p =>
          obtain ⟨id, off, _, h⟩ := asP_some.1 h
          obtain ⟨h', _, h⟩ := oB h
          cases h
          exact ⟨h', rfl⟩
      | _ => simp at hg2
    · cases hc
  unfold zf at h
  split at h
  · exact take h
  · obtain ⟨d, _, h⟩ := oB h
    obtain ⟨g, _, h⟩ := oB h
    split at h
    · split at h
      · exact take h
      · exact skip h
    · exact skip h
    · cases h
theorem TI {o : Oper} (hc : ZQ A o = true) : zi A o = .mem := by
  unfold ZQ at hc
  split at hc
  · rename_i ho; unfold zi; rw [ho]
  · cases hc
theorem wI {s t : St} {o : Oper} (hc : ZQ A o = true) (h : zf P A ev ops o s = some t) : ∃ v tl, t = setSl { s with h := s.h ++ tl } o.dst v := by
  have skip : some (setSl s o.dst .no) = some t → ∃ v tl, t = setSl { s with h := s.h ++ tl } o.dst v := fun h => ⟨.no, [], by cases h; rw [List.append_nil]⟩
  have take : evOp P A ev o s some = some t → ∃ v tl, t = setSl { s with h := s.h ++ tl } o.dst v := by
    intro h
    unfold ZQ at hc
    split at hc
    · rename_i args ats ho
      unfold evOp at h
      rw [ho] at h
      simp only [setK_eq] at h
      split at hc
      · rename_i d r hargs
        rw [hargs] at h
        unfold builtinK at h
        split at h
        · exact absurd ‹Builtin.append = Builtin.len› (by intro e; cases e)
        · exact absurd ‹Builtin.append = Builtin.max› (by intro e; cases e)
        · exact absurd ‹Builtin.append = Builtin.min› (by intro e; cases e)
        · rename_i ty ty2 x y hb hts hxy
          cases hxy
          obtain ⟨_, _, h⟩ := oB h
          obtain ⟨_, _, h⟩ := oB h
          obtain ⟨_, h⟩ := gB.1 h
          obtain ⟨xv, _, h⟩ := oB h
          simp only [ontoK, hc, cond_true] at h
          split at h
          · obtain ⟨_, h⟩ := gB.1 h
            obtain ⟨yv, _, h⟩ := oB h
            have l1 : ∀ {c : Nat → Option St} {r : St}, lenA yv c = some r → ∃ n, c n = some r := by
              intro c r h; unfold lenA at h; split at h
              · exact ⟨_, h⟩
              · exact ⟨_, (gB.1 h).2⟩
              · cases h
            obtain ⟨n, h⟩ := l1 h
            have l2 : ∀ {m z : Nat} {c : List Sc → Option St} {r : St}, firstA s yv m z c = some r → ∃ n, c n = some r := by
              intro m z c r h; rw [xe] at h; split at h
              · simp only [Option.bind_eq_some_iff] at h; obtain ⟨_, _, _, _, l, _, h⟩ := h; exact ⟨_, h⟩
              · split at h
                · exact ⟨_, (gB.1 h).2⟩
                · obtain ⟨_, _, _, _, h⟩ := asS_some.1 h; obtain ⟨l, _, h⟩ := oB h; exact ⟨_, h⟩
              · cases h
            obtain ⟨new, h⟩ := l2 h
            unfold appendS at h
            split at h
            · obtain ⟨_, h⟩ := gB.1 h
              cases h
              exact ⟨_, [], by rw [List.append_nil]⟩
            · simp only at h
              obtain ⟨_, h⟩ := gB.1 h
              cases h
              exact ⟨_, _, rfl⟩
          · cases h
        · exact absurd ‹Builtin.append = Builtin.copy› (by intro e; cases e)
        · cases h
      · cases hc
    · cases hc
  unfold zf at h
  split at h
  · exact take h
  · obtain ⟨d, _, h⟩ := oB h
    obtain ⟨g, _, h⟩ := oB h
    split at h
    · split at h
      · exact take h
      · exact skip h
    · exact skip h
    · cases h
theorem Vv {o : Oper} (hc : Wb o = true) : zi A o = .pure ∨ zi A o = .read := by
  unfold Wb at hc
  split at hc
  · rename_i t x ho
    unfold zi; rw [ho]
    cases x with
    | tmp d =>
      cases hl : A.loc.contains d
      · right; show cond (A.loc.contains d) Cl.pure Cl.read = .read; rw [hl]; rfl
      · left; show cond (A.loc.contains d) Cl.pure Cl.read = .pure; rw [hl]; rfl
    | _ => exact .inr rfl
  · rename_i t x lo hi mx ho
    right; unfold zi; rw [ho]
  · cases hc
theorem TY {h tl : AH} {id : Nat} (hb : boxOk h id = true) : boxOk (h ++ tl) id = true := by
  unfold boxOk at hb ⊢
  cases hq : h[id]? with
  | none => rw [hq] at hb; cases hb
  | some o => rw [List.getElem?_append_left (List.getElem?_eq_some_iff.1 hq).1, hq]; rw [hq] at hb; exact hb
theorem onlyX_ext {h tl : AH} {x : Operand} {a : SV} (hb : (onlyL A x a && onlyX A h x a) = true) : (onlyL A x a && onlyX A (h ++ tl) x a) = true := by
  simp only [onlyX, Bool.and_eq_true] at hb ⊢
  refine ⟨hb.1, hb.2.1, ?_⟩
  have h2 := hb.2.2
  cases x with
  | tmp d =>
    simp only [onlyB, Bool.or_eq_true] at h2 ⊢
    refine h2.imp id fun h2 => ?_
    split at h2
    · exact TY h2
    · cases h2
  | _ => rfl
theorem TN {s s1 : St} {tl : AH} {o : Oper} (hc : Wb o = true) (h : zf P A ev ops o s = some s1) : zf P A ev ops o { s with h := s.h ++ tl } = some { s1 with h := s1.h ++ tl } := by
  have hs : ∀ (d : Option Tmp) (v : SV), setSl { s with h := s.h ++ tl } d v = { setSl s d v with h := (setSl s d v).h ++ tl } := fun d v => by cases d <;> rfl
  have get : ∀ {id : Nat} {x : AO}, s.h[id]? = some x → (s.h ++ tl)[id]? = some x := fun h => by
    rw [List.getElem?_append_left (List.getElem?_eq_some_iff.1 h).1]; exact h
  have hop : ∀ {s1 : St}, evOp P A ev o s some = some s1 → evOp P A ev o { s with h := s.h ++ tl } some = some { s1 with h := s1.h ++ tl } := by
    intro s1 h
    unfold Wb at hc
    split at hc
    · rename_i t x ho
      unfold evOp at h ⊢
      rw [ho] at h ⊢
      simp only [setK_eq] at h ⊢
      obtain ⟨hg, h⟩ := gB.1 h
      rw [gB]
      refine ⟨hg, ?_⟩
      obtain ⟨a, ha, h⟩ := oB h
      rw [show evA { s with h := s.h ++ tl } x = evA s x by cases x <;> rfl, ha, Option.bind_some]
      obtain ⟨hl, h⟩ := gB.1 h
      rw [gB]
      refine ⟨onlyX_ext hl, ?_⟩
      have la : ∀ {n : Nat} {c : List Sc → Option St}, loadAt s a n c = some s1 → ∃ l, c l = some s1 ∧ ∀ (c' : List Sc → Option St), loadAt { s with h := s.h ++ tl } a n c' = c' l := by
        intro n c h
        cases a with
        | l k off =>
          simp only [loadAt] at h ⊢
          obtain ⟨b, hb, h⟩ := oB h
          obtain ⟨cs, hcs, h⟩ := oB h
          obtain ⟨hq, h⟩ := gB.1 h
          refine ⟨_, h, fun c' => ?_⟩
          simp only [hb, Option.bind_some, hcs, cutK, hq, guardB, cond_true]
        | v x =>
          cases x with
          | agg l => cases h
          | sc p =>
            simp only [loadAt] at h ⊢
            obtain ⟨id, off, rfl, h⟩ := asP_some.1 h
            obtain ⟨ob, hob, h⟩ := oB h
            obtain ⟨cs, hcs, h⟩ := oB h
            obtain ⟨hq, h⟩ := gB.1 h
            refine ⟨_, h, fun c' => ?_⟩
            simp only [asP, ldNK, get hob, Option.bind_some, hcs, cutK, hq, guardB, cond_true]
        | _ => cases h
      have l1 : ∀ {c : Sc → Option St}, load1 s a c = some s1 → ∃ l, c l = some s1 ∧ ∀ (c' : Sc → Option St), load1 { s with h := s.h ++ tl } a c' = c' l := by
        intro c h
        cases a with
        | l k off =>
          simp only [load1] at h ⊢
          obtain ⟨b, hb, h⟩ := oB h
          obtain ⟨cs, hcs, h⟩ := oB h
          obtain ⟨y, hy, h⟩ := oB h
          refine ⟨_, h, fun c' => ?_⟩
          simp only [hb, Option.bind_some, hcs, hy]
        | v x =>
          cases x with
          | agg l => cases h
          | sc p =>
            simp only [load1] at h ⊢
            obtain ⟨id, off, rfl, h⟩ := asP_some.1 h
            obtain ⟨y, hy, h⟩ := oB h
            obtain ⟨ob, hob, hy⟩ := oB hy
            obtain ⟨cs, hcs, hy⟩ := oB hy
            refine ⟨_, h, fun c' => ?_⟩
            simp only [asP, ld1, get hob, Option.bind_some, hcs, hy]
        | _ => cases h
      cases hq : yB P t with
      | true =>
        simp only [hq, cond_true] at h ⊢
        obtain ⟨l, h, hk⟩ := la h
        rw [hk]
        have e := xK (fun s' : St => some ({ s' with h := s'.h ++ tl } : St)) (yo P 8 t) l fun ys => some (setSl s o.dst (.v (.agg ys)))
        rw [h] at e
        simp only [Option.bind_some] at e
        simp only [hs]
        exact e.symm
      | false =>
        simp only [hq, cond_false] at h ⊢
        obtain ⟨l, h, hk⟩ := l1 h
        rw [hk]
        have e := wp (fun s' : St => some ({ s' with h := s'.h ++ tl } : St)) ((yo P 8 t).getD 0 .any) l fun y => some (setSl s o.dst (.v (.sc y)))
        rw [h] at e
        simp only [Option.bind_some] at e
        simp only [hs]
        exact e.symm
    · rename_i t x lo hi mx ho
      have ev0 : ∀ z, evV { s with h := s.h ++ tl } z = evV s z := fun z => by simp only [evV, wu]
      have bnd : ∀ {z : Option Operand} {d : Nat} {c : Nat → Option St}, boundI s z d c = some s1 → ∃ n, c n = some s1 ∧ ∀ (c' : Nat → Option St), boundI { s with h := s.h ++ tl } z d c' = c' n := by
        intro z d c h
        cases z with
        | none => exact ⟨d, h, fun c' => rfl⟩
        | some z =>
          simp only [boundI] at h
          obtain ⟨v, hv, h⟩ := oB h
          split at h
          · obtain ⟨hg, h⟩ := gB.1 h
            refine ⟨_, h, fun c' => ?_⟩
            simp only [boundI, ev0, hv, Option.bind_some, hg, guardB, cond_true]
          · cases h
      have row : ∀ {e : TypeId} {y : Sc}, rowOk s.h e y = true → rowOk (s.h ++ tl) e y = true := by
        intro e y h
        cases y with
        | sl id o n =>
          simp only [rowOk] at h ⊢
          cases hq : s.h[id]? with
          | none => rw [hq] at h; cases h
          | some ob => rw [get hq]; rw [hq] at h; exact h
        | _ => exact h
      have sl : ∀ {e : TypeId} {z : Nat} {y : Sc}, sliceS s e z y lo hi mx (fun v => some (setSl s o.dst (.v (.sc v)))) = some s1 → sliceS { s with h := s.h ++ tl } e z y lo hi mx (fun v => some (setSl { s with h := s.h ++ tl } o.dst (.v (.sc v)))) = some { s1 with h := s1.h ++ tl } := by
        intro e z y h
        unfold sliceS at h ⊢
        obtain ⟨l, h, k1⟩ := bnd h
        obtain ⟨hh, h, k2⟩ := bnd h
        obtain ⟨m, h, k3⟩ := bnd h
        obtain ⟨hg, h⟩ := gB.1 h
        rw [k1, k2, k3, gB]
        cases h
        refine ⟨?_, by simp only [hs]⟩
        simp only [Bool.and_eq_true] at hg ⊢
        exact ⟨⟨⟨⟨row hg.1.1.1.1, hg.1.1.1.2⟩, hg.1.1.2⟩, hg.1.2⟩, hg.2⟩
      unfold evOp at h ⊢
      rw [ho] at h ⊢
      simp only [setK_eq] at h ⊢
      split at h
      · rename_i e hu
        try simp only [hu]
        obtain ⟨hg, h⟩ := gB.1 h
        obtain ⟨v, hv, h⟩ := oB h
        rw [gB]
        refine ⟨hg, ?_⟩
        rw [ev0, hv, Option.bind_some]
        cases v with
        | agg l => cases h
        | sc y => exact sl h
      · rename_i n e hu
        try simp only [hu]
        obtain ⟨hg, h⟩ := gB.1 h
        obtain ⟨v, hv, h⟩ := oB h
        rw [gB]
        refine ⟨hg, ?_⟩
        rw [ev0, hv, Option.bind_some]
        cases v with
        | agg l => cases h
        | sc y =>
          simp only [asSc] at h ⊢
          obtain ⟨id, off, rfl, h⟩ := asP_some.1 h
          obtain ⟨hb, h⟩ := gB.1 h
          simp only [asP]
          rw [gB]
          exact ⟨TY hb, sl h⟩
      · cases h
    · cases hc
  unfold zf at h ⊢
  cases hg : o.guard with
  | none => rw [hg] at h; exact hop h
  | some p =>
    obtain ⟨j, w⟩ := p
    rw [hg] at h
    simp only at h ⊢
    cases hj : (ops[j]?).bind (·.dst) with
    | none => rw [hj] at h; cases h
    | some g =>
      rw [hj] at h
      simp only [Option.bind_some] at h ⊢
      cases hv : s.sl.get g with
      | none => rw [hv] at h; cases h
      | some v =>
        rw [hv] at h
        simp only [Option.bind_some] at h ⊢
        split at h
        · split at h
          · rename_i hw; rw [if_pos hw]; exact hop h
          · rename_i hw; rw [if_neg hw]; cases h; rw [hs]
        · cases h; rw [hs]
        · cases h
theorem swap {x y : Oper} (hr : xk A ev) (hc : Vb A ops x y = true) {s s1 s2 : St} (hfx : zi A x = .new → ∀ d, x.dst = some d → yz d s) (hfy : zi A y = .new → ∀ d, y.dst = some d → yz d s)
    (h1 : zf P A ev ops x s = some s1) (h2 : zf P A ev ops y s1 = some s2) : ∃ t, zf P A ev ops y s = some t ∧ zf P A ev ops x t = some s2 := by
  simp only [Vb, Bool.and_eq_true, Bool.or_eq_true] at hc
  obtain ⟨hp, hap⟩ := hc
  obtain ⟨a1, a2, a3⟩ := Oper.apart_spec hap
  rcases hp with hp | hk
  case inr => exact swapK hr (by unfold kdOk; rw [hk, hap]; rfl) h1 h2
  rcases hp with ((hp | ⟨hxe, hys⟩) | ⟨hxe, hys⟩) | ⟨hxe, hys⟩
  case inl.inr =>
    have hcx := Vv (A := A) hxe
    have nx : zi A x ≠ .loc := by rcases hcx with h | h <;> rw [h] <;> decide
    have nx' : zi A x ≠ .new := by rcases hcx with h | h <;> rw [h] <;> decide
    have hcy := TI hys
    obtain ⟨⟨v1, H1, e1, _⟩, k1⟩ := yy nx nx' h1
    have hH1 : H1 = s.h := by have := k1 (by simpa using hcx); rw [e1] at this; simpa using this
    rw [Yz s hH1] at e1
    rw [e1, yJ (by rw [hcy]; decide) a1 (fun t ht => a2 t ht) (fun hn => by rw [hcy] at hn; cases hn), Option.map_eq_some_iff] at h2
    obtain ⟨t, ht, e2⟩ := h2
    refine ⟨t, ht, ?_⟩
    obtain ⟨v2, tl, e3⟩ := wI hys ht
    rw [← e2, e3, yJ nx a3 (fun t ht hx => a2 t hx ht) (fun hn => absurd hn nx'), TN hxe h1, e1, Option.map_some]
    have e4 : ∀ (d : Option Tmp), ({ setSl s d v1 with h := (setSl s d v1).h ++ tl } : St) = setSl { s with h := s.h ++ tl } d v1 := fun d => by cases d <;> rfl
    rw [e4, zT (fun t ht => a2 t ht)]
  case inl.inl.inr =>
    have hcx : zi A x = .pure := by
      cases hc : zi A x <;> rw [hc] at hxe <;> first | rfl | cases hxe
    obtain ⟨⟨v1, H1, e1, _⟩, k1⟩ := yy (by rw [hcx]; decide) (by rw [hcx]; decide) h1
    have hH1 : H1 = s.h := by have := k1 (by simp [hcx]); rw [e1] at this; simpa using this
    rw [Yz s hH1] at e1
    rw [e1, Yg (isHst_store hys) a1 (fun t ht => a2 t ht), Option.map_eq_some_iff] at h2
    obtain ⟨t, ht, e2⟩ := h2
    refine ⟨t, ht, ?_⟩
    obtain ⟨h', e3⟩ := Tm hys ht
    rw [← e2, e3, yJ (by rw [hcx]; decide) a3 (fun t ht hx => a2 t hx ht) (fun hn => by rw [hcx] at hn; cases hn), wS (.inl hcx), h1, e1, Option.map_some, Option.map_some]
    have e4 : ∀ (d : Option Tmp), ({ setSl s d v1 with h := h' } : St) = setSl { s with h := h' } d v1 := fun d => by cases d <;> rfl
    rw [e4, zT (fun t ht => a2 t ht)]
  case inl.inl.inl.inr =>
    have hcx : zi A x = .pure := by
      unfold UJ at hxe
      split at hxe
      · rename_i ho; unfold zi; rw [ho]
      · cases hxe
    obtain ⟨⟨v1, H1, e1, _⟩, k1⟩ := yy (by rw [hcx]; decide) (by rw [hcx]; decide) h1
    have hH1 : H1 = s.h := by have := k1 (by simp [hcx]); rw [e1] at this; simpa using this
    rw [Yz s hH1] at e1
    rw [e1, Yg hys a1 (fun t ht => a2 t ht), Option.map_eq_some_iff] at h2
    obtain ⟨t, ht, e2⟩ := h2
    refine ⟨t, ht, ?_⟩
    obtain ⟨lo, h', e3⟩ := VI hys ht
    rw [← e2, e3, yJ (by rw [hcx]; decide) a3 (fun t ht hx => a2 t hx ht) (fun hn => by rw [hcx] at hn; cases hn), evOne_slots hxe, h1, e1, Option.map_some, Option.map_some]
    have e4 : ∀ (d : Option Tmp), ({ setSl s d v1 with lo := lo, h := h' } : St) = setSl { s with lo := lo, h := h' } d v1 := fun d => by cases d <;> rfl
    rw [e4, zT (fun t ht => a2 t ht)]
  have hx : zi A x ≠ .loc := by intro e; rw [e] at hp; cases hp
  have hy : zi A y ≠ .loc := by intro e; rw [e] at hp; revert hp; cases zi A x <;> simp [UQ]
  have comm : ∀ (s : St) v w, setSl (setSl s x.dst v) y.dst w = setSl (setSl s y.dst w) x.dst v := fun s v w => zT (fun t ht => a2 t ht)
  have a2' : ∀ t, y.dst = some t → x.dst ≠ some t := fun t ht hx => a2 t hx ht
  by_cases nx : zi A x = .new
  · obtain ⟨d, a, oz, hd, rfl, ha⟩ := YJ nx (hfx nx) h1
    have hfd := hfx nx d hd
    have hyd : y.dst ≠ some d := a2 d hd
    have hky : zi A y = .new → ∀ d', y.dst = some d' → killL d' a = a := fun _ d' hd' => (ha d' (fun e => hyd (by rw [hd', e]))).2
    rw [Vg hfd hy (a1 d hd) hyd hky, Option.map_eq_some_iff] at h2
    obtain ⟨t, ht, rfl⟩ := h2
    refine ⟨t, ht, ?_⟩
    by_cases ny : zi A y = .new
    · obtain ⟨d', a', oz', hd', rfl, ha'⟩ := YJ ny (hfy ny) ht
      have hne : d ≠ d' := fun e => hyd (by rw [hd', e])
      rw [Vg (hfy ny d' hd') hx (a3 d' hd') (a2' d' hd') (fun _ d'' hd'' => (ha' d'' (fun e => a2' d' hd' (by rw [hd'', e]))).2), h1, Option.map_some, upd_comm hne]
    · obtain ⟨⟨v2, H2, rfl, hv2⟩, _⟩ := yy hy ny ht
      rw [yJ hx a3 a2' (fun _ d'' hd'' => by rw [hd] at hd''; cases hd''; exact WJ (hv2 d hfd)), wS (.inr nx), h1, Option.map_some, Option.map_some, TP hyd]
  · obtain ⟨⟨v1, H1, e1, hv1⟩, k1⟩ := yy hx nx h1
    have k1' : s1.h = H1 := by rw [e1]; simp
    have hky : zi A y = .new → ∀ d', y.dst = some d' → killL d' v1 = v1 := fun ny d' hd' => WJ (hv1 d' (hfy ny d' hd'))
    rw [e1, yJ hy a1 (fun t ht => a2 t ht) hky, Option.map_eq_some_iff] at h2
    obtain ⟨u, hu, e2⟩ := h2
    by_cases ny : zi A y = .new
    · rw [wS (.inr ny), Option.map_eq_some_iff] at hu
      obtain ⟨t, ht, rfl⟩ := hu
      refine ⟨t, ht, ?_⟩
      obtain ⟨d', a', oz', hd', rfl, ha'⟩ := YJ ny (hfy ny) ht
      rw [Vg (hfy ny d' hd') hx (a3 d' hd') (a2' d' hd') (fun hn => absurd hn nx), h1, Option.map_some, ← e2, e1, TP (a2' d' hd')]
    by_cases py : zi A y = .pure
    · rw [wS (.inl py), Option.map_eq_some_iff] at hu
      obtain ⟨t, ht, e3⟩ := hu
      refine ⟨t, ht, ?_⟩
      obtain ⟨⟨v2, H2, e4, _⟩, k2⟩ := yy hy ny ht
      have hH2 : H2 = s.h := by have := k2 (by simp [py]); rw [e4] at this; simpa using this
      rw [Yz s hH2] at e4
      have eu : u = setSl { s with h := H1 } y.dst v2 := by rw [← e3, e4]; exact (zV s y.dst v2 H1).symm
      rw [e4, yJ hx a3 a2' (fun hn => absurd hn nx), h1, Option.map_some, e1, comm, ← eu, e2]
    · have hr1 : s1.h = s.h := by
        refine k1 ?_
        cases hcx : zi A x <;> cases hcy : zi A y <;> simp_all [UQ]
      have hH1 : H1 = s.h := k1'.symm.trans hr1
      rw [Yz s hH1] at hu e1
      refine ⟨u, hu, ?_⟩
      obtain ⟨⟨v2, H2, e4, _⟩, k2⟩ := yy hy ny hu
      rw [e4, yJ hx a3 a2' (fun hn => absurd hn nx)]
      by_cases px : zi A x = .pure
      · rw [wS (.inl px), h1, Option.map_some, Option.map_some, ← e2, e4, e1, ← zV, comm]
      · have hH2 : H2 = s.h := by
          have := k2 (by cases hcx : zi A x <;> cases hcy : zi A y <;> simp_all [UQ])
          rw [e4] at this; simpa using this
        rw [Yz s hH2] at e4 ⊢
        rw [h1, Option.map_some, ← e2, e4, e1, comm]
def yL (y : Oper) : Option Tmp := match y.op with | .slice _ (.tmp d) _ _ _ => some d | _ => none
def Ta (A : FAn) (o : Oper) : Bool := ZQ A o || (match zi A o with | .pure => true | .read => true | .new => true | _ => false)
def QR (A : FAn) (ops : Array Oper) (y : Oper) : Bool := (yL y).isSome && ops.all fun o => Ta A o || !(o.apart ops y)
def Zg (A : FAn) (ops : Array Oper) (x y : Oper) : Bool := Vb A ops x y || ((ZQ A x && QR A ops y) && x.apart ops y)
theorem QE {x y : Oper} (h : Zg A ops x y = true) : x.apart ops y = true := by
  unfold Zg Vb at h
  cases hx : x.apart ops y with
  | true => rfl
  | false => rw [hx] at h; simp at h
def scId : SV → Option Nat
  | .v (.sc (.sl id _ _)) => some id
  | .v (.sc (.ptr id _)) => some id
  | _ => none
def WL (s : St) (d : Tmp) : Prop := ∀ v id, s.sl.get d = some v → scId v = some id → id < s.h.length
theorem scId_kill {k : Nat} {x : SV} {id : Nat} (h : scId (killL k x) = some id) : scId x = some id := by
  cases x with
  | l j o => simp only [killL] at h; cases hb : Nat.beq j k <;> rw [hb] at h <;> cases h
  | s j n => simp only [killL] at h; cases hb : Nat.beq j k <;> rw [hb] at h <;> cases h
  | _ => exact h
theorem old_one {s s' : St} {o : Oper} {d : Tmp} (hqo : Ta A o = true) (hne : o.dst ≠ some d) (hs : WL s d) (h : zf P A ev ops o s = some s') : WL s' d := by
  intro v id hv hid
  have setget : ∀ (S : St) (w : SV), (setSl S o.dst w).sl.get d = S.sl.get d := by
    intro S w
    cases hdst : o.dst with
    | none => rfl
    | some e => exact Tr.get_set_ne _ (fun he : e = d => hne (by rw [hdst, he])) _
  rcases Bool.or_eq_true_iff.1 hqo with hon | hcl
  · obtain ⟨w, tl, rfl⟩ := wI hon h
    rw [setget] at hv
    have := hs v id hv hid
    simp only [zw, List.length_append]
    omega
  · by_cases hn : zi A o = .new
    · obtain ⟨e, hdst, hcase⟩ := Yi hn h
      have hed : e ≠ d := fun he => hne (by rw [hdst, he])
      rcases hcase with ⟨a, z, rfl, _⟩ | rfl
      · simp only [newLocal] at hv
        rw [Tr.get_set_ne _ hed, Tr.get_map] at hv
        obtain ⟨y, hy, rfl⟩ := oM hv
        exact hs y id hy (scId_kill hid)
      · simp only [setSl] at hv
        rw [Tr.get_set_ne _ hed] at hv
        exact hs v id hv hid
    · have hpr : zi A o = .pure ∨ zi A o = .read := by
        cases hc : zi A o <;> rw [hc] at hcl <;> first | exact .inl rfl | exact .inr rfl | exact absurd hc hn | cases hcl
      have nl : zi A o ≠ .loc := by rcases hpr with h | h <;> rw [h] <;> decide
      obtain ⟨⟨w, H, e1, _⟩, k1⟩ := yy nl hn h
      have k2 := k1 (by simpa using hpr)
      have hvs : s.sl.get d = some v := by
        rw [e1, setget] at hv
        exact hv
      rw [k2]
      exact hs v id hvs hid
theorem evOne_red {s s1 : St} {tl : AH} {t : TypeId} {d : Tmp} {lo hi mx : Option Operand} {o : Oper} (ho : o.op = .slice t (.tmp d) lo hi mx) (hd : WL s d) (h : zf P A ev ops o { s with h := s.h ++ tl } = some s1) : ∃ u, zf P A ev ops o s = some u := by
  have get : ∀ {id : Nat}, id < s.h.length → (s.h ++ tl)[id]? = s.h[id]? := fun h => List.getElem?_append_left h
  have hop : ∀ {s1 : St}, evOp P A ev o { s with h := s.h ++ tl } some = some s1 → ∃ u, evOp P A ev o s some = some u := by
    intro s1 h
    have ev0 : ∀ z, evV { s with h := s.h ++ tl } z = evV s z := fun z => by simp only [evV, wu]
    have bnd : ∀ {z : Option Operand} {d : Nat} {c : Nat → Option St}, boundI { s with h := s.h ++ tl } z d c = some s1 → ∃ n, c n = some s1 ∧ ∀ (c' : Nat → Option St), boundI s z d c' = c' n := by
      intro z d c h
      cases z with
      | none => exact ⟨d, h, fun c' => rfl⟩
      | some z =>
        simp only [boundI] at h
        obtain ⟨v, hv, h⟩ := oB h
        split at h
        · obtain ⟨hg, h⟩ := gB.1 h
          refine ⟨_, h, fun c' => ?_⟩
          rw [ev0] at hv
          simp only [boundI, hv, Option.bind_some, hg, guardB, cond_true]
        · cases h
    have row : ∀ {e : TypeId} {y : Sc}, (∀ id o n, y = .sl id o n → id < s.h.length) → rowOk (s.h ++ tl) e y = true → rowOk s.h e y = true := by
      intro e y hy h
      cases y with
      | sl id o n =>
        simp only [rowOk] at h ⊢
        rw [get (hy id o n rfl)] at h
        exact h
      | _ => exact h
    have sl : ∀ {e : TypeId} {z : Nat} {y : Sc}, (∀ id o n, y = .sl id o n → id < s.h.length) → sliceS { s with h := s.h ++ tl } e z y lo hi mx (fun v => some (setSl { s with h := s.h ++ tl } o.dst (.v (.sc v)))) = some s1 → ∃ u, sliceS s e z y lo hi mx (fun v => some (setSl s o.dst (.v (.sc v)))) = some u := by
      intro e z y hy h
      unfold sliceS at h ⊢
      obtain ⟨l, h, k1⟩ := bnd h
      obtain ⟨hh, h, k2⟩ := bnd h
      obtain ⟨m, h, k3⟩ := bnd h
      obtain ⟨hg, h⟩ := gB.1 h
      rw [k1, k2, k3]
      simp only [Bool.and_eq_true] at hg
      refine ⟨_, gB.2 ⟨?_, rfl⟩⟩
      simp only [Bool.and_eq_true]
      exact ⟨⟨⟨⟨row hy hg.1.1.1.1, hg.1.1.1.2⟩, hg.1.1.2⟩, hg.1.2⟩, hg.2⟩
    have old : ∀ {v : AV} {y : Sc}, evV s (.tmp d) = some v → v = .sc y → ∀ id, (∃ o n, y = .sl id o n) ∨ (∃ o, y = .ptr id o) → id < s.h.length := by
      intro v y hv hvy id hy
      simp only [evV, evA] at hv
      cases hg : s.sl.get d with
      | none => rw [hg] at hv; simp at hv
      | some w =>
        rw [hg] at hv
        cases w with
        | v a =>
          have e : a = v := Option.some.inj hv
          subst e; subst hvy
          refine hd _ id hg ?_
          rcases hy with ⟨o, n, rfl⟩ | ⟨o, rfl⟩ <;> rfl
        | _ => cases hv
    unfold evOp at h ⊢
    rw [ho] at h ⊢
    simp only [setK_eq] at h ⊢
    split at h
    · rename_i e hu
      try simp only [hu]
      obtain ⟨hg, h⟩ := gB.1 h
      obtain ⟨v, hv, h⟩ := oB h
      rw [ev0] at hv
      cases v with
      | agg l => cases h
      | sc y =>
        obtain ⟨u, hu'⟩ := sl (fun id o n hy => old hv rfl id (.inl ⟨o, n, hy⟩)) h
        exact ⟨u, gB.2 ⟨hg, by rw [hv, Option.bind_some]; exact hu'⟩⟩
    · rename_i n e hu
      try simp only [hu]
      obtain ⟨hg, h⟩ := gB.1 h
      obtain ⟨v, hv, h⟩ := oB h
      rw [ev0] at hv
      cases v with
      | agg l => cases h
      | sc y =>
        simp only [asSc] at h
        obtain ⟨id, off, rfl, h⟩ := asP_some.1 h
        obtain ⟨hb, h⟩ := gB.1 h
        have hid := old hv rfl id (.inr ⟨off, rfl⟩)
        obtain ⟨u, hu'⟩ := sl (fun id' o n hy => by cases hy; exact hid) h
        refine ⟨u, gB.2 ⟨hg, ?_⟩⟩
        rw [hv, Option.bind_some]
        simp only [asSc, asP]
        refine gB.2 ⟨?_, hu'⟩
        simp only [boxOk] at hb ⊢
        rw [get hid] at hb
        exact hb
    · cases h
  unfold zf at h ⊢
  cases hg : o.guard with
  | none => rw [hg] at h; exact hop h
  | some p =>
    obtain ⟨j, w⟩ := p
    rw [hg] at h
    simp only at h ⊢
    cases hj : (ops[j]?).bind (·.dst) with
    | none => rw [hj] at h; cases h
    | some g =>
      rw [hj] at h
      simp only [Option.bind_some] at h ⊢
      cases hv : s.sl.get g with
      | none => rw [hv] at h; cases h
      | some v =>
        rw [hv] at h
        simp only [Option.bind_some] at h ⊢
        split at h
        · split at h
          · rename_i hw; rw [if_pos hw]; exact hop h
          · rename_i hw; rw [if_neg hw]; exact ⟨_, rfl⟩
        · exact ⟨_, rfl⟩
        · cases h
theorem swap1 {x y : Oper} (hr : xk A ev) (hc : Zg A ops x y = true) {s s1 s2 : St} (hold : QR A ops y = true → ∀ d, yL y = some d → WL s d) (hfx : zi A x = .new → ∀ d, x.dst = some d → yz d s) (hfy : zi A y = .new → ∀ d, y.dst = some d → yz d s)
    (h1 : zf P A ev ops x s = some s1) (h2 : zf P A ev ops y s1 = some s2) : ∃ t, zf P A ev ops y s = some t ∧ zf P A ev ops x t = some s2 := by
  rcases Bool.or_eq_true_iff.1 hc with hc | hc
  · exact swap hr hc hfx hfy h1 h2
  simp only [Bool.and_eq_true] at hc
  obtain ⟨⟨hxo, hq⟩, hap⟩ := hc
  obtain ⟨a1, a2, a3⟩ := Oper.apart_spec hap
  obtain ⟨d, hb⟩ := Option.isSome_iff_exists.1 (Bool.and_eq_true_iff.1 hq).1
  have hdo : WL s d := hold hq d hb
  unfold yL at hb
  split at hb
  case h_2 => cases hb
  rename_i t d' lo hi mx ho
  cases hb
  have hyl : Wb y = true := by unfold Wb; rw [ho]
  have hcy := Vv (A := A) hyl
  have ny : zi A y ≠ .loc := by rcases hcy with h | h <;> rw [h] <;> decide
  have ny' : zi A y ≠ .new := by rcases hcy with h | h <;> rw [h] <;> decide
  have hcx := TI hxo
  obtain ⟨v, tl, rfl⟩ := wI hxo h1
  rw [yJ ny a1 (fun t ht => a2 t ht) (fun hn => absurd hn ny'), Option.map_eq_some_iff] at h2
  obtain ⟨u, hu, rfl⟩ := h2
  obtain ⟨t', ht⟩ := evOne_red ho hdo hu
  refine ⟨t', ht, ?_⟩
  have hu2 := TN (tl := tl) hyl ht
  rw [hu2] at hu
  cases hu
  obtain ⟨⟨w, H, e1, _⟩, k1⟩ := yy ny ny' ht
  have hH : H = s.h := by have := k1 (by simpa using hcy); rw [e1] at this; simpa using this
  rw [Yz s hH] at e1
  subst e1
  rw [yJ (by rw [hcx]; decide) a3 (fun t ht hx => a2 t hx ht) (fun hn => by rw [hcx] at hn; cases hn), h1, Option.map_some]
  have e4 : ∀ (d : Option Tmp), ({ setSl s d w with h := (setSl s d w).h ++ tl } : St) = setSl { s with h := s.h ++ tl } d w := fun d => by cases d <;> rfl
  rw [e4, zT (fun t ht => a2 t ht)]
theorem yn {i : Nat} {o : Oper} (hi : ops[i]? = some o) {r : List Nat} {s : St} : zS P A ev ops (i :: r) s = (zf P A ev ops o s).bind (zS P A ev ops r) := by
  simp [zS, hi]
theorem fresh_loc {k : Nat} {s s' : St} {o : Oper} (hf : yz k s) (hc : zi A o = .loc) (h : zf P A ev ops o s = some s') : yz k s' := by
  have skip : some (setSl s o.dst .no) = some s' → yz k s' := by intro h; cases h; exact Yj (h := s.h) hf rfl
  have take : evOp P A ev o s some = some s' → yz k s' := by
    intro h
    unfold evOp at h
    simp only [setK_eq, newLocalK_eq] at h
    unfold zi at hc
    split at hc <;> first | cases hc | skip
    all_goals first
      | (split at hc <;> first | cases hc | (rename_i d _; cases hl : A.loc.contains d <;> rw [hl] at hc <;> cases hc))
      | (rename_i d _; cases hl : A.loc.contains d <;> rw [hl] at hc <;> cases hc)
      | (rename_i ho
         rw [ho] at h
         simp only at h
         replace h := (gB.1 h).2
         obtain ⟨_, _, h⟩ := oB h
         obtain ⟨_, _, h⟩ := oB h
         replace h := (gB.1 h).2
         obtain ⟨s1, h1, h⟩ := xo h
         cases h
         have e := Uo h1
         exact Yj (s := s1) (h := s1.h) (by unfold yz; rw [e]; exact hf) rfl)
  unfold zf at h
  split at h
  · exact take h
  · obtain ⟨d, _, h⟩ := oB h
    obtain ⟨g, _, h⟩ := oB h
    split at h
    · split at h
      · exact take h
      · exact skip h
    · exact skip h
    · cases h
def Zq (A : FAn) (ops : Array Oper) (l : List Nat) (s : St) : Prop := ∀ j ∈ l, ∀ o, ops[j]? = some o → zi A o = .new → ∀ d, o.dst = some d → yz d s
def NewDst (A : FAn) (ops : Array Oper) : Prop := ∀ (j : Nat) o, ops[j]? = some o → zi A o = .new → ∀ d, o.dst = some d → ∀ (k : Nat) x, k ≠ j → ops[k]? = some x → x.dst ≠ some d
theorem UG {l : List Nat} {k : Nat} {x : Oper} {s s' : St} (hnd : NewDst A ops) (hx : ops[k]? = some x) (hk : k ∉ l) (hf : Zq A ops l s) (h : zf P A ev ops x s = some s') : Zq A ops l s' := by
  intro j hj o ho hn d hd
  have hne : k ≠ j := fun e => hk (e ▸ hj)
  have hf' := hf j hj o ho hn d hd
  by_cases hc : zi A x = .loc
  · exact fresh_loc hf' hc h
  · exact fresh_one hf' hc (hnd j o ho hn d hd k x hne hx) h
theorem bubble (hr : xk A ev) (hnd : NewDst A ops) {i : Nat} {o : Oper} (hi : ops[i]? = some o) {r2 : List Nat} {s' : St} : ∀ {r1 : List Nat} {s : St}, (r1 ++ i :: r2).Nodup → (QR A ops o = true → ∀ d, yL o = some d → WL s d) → Zq A ops (r1 ++ i :: r2) s → (∀ k ∈ r1, ∃ x, ops[k]? = some x ∧ Zg A ops x o = true) → zS P A ev ops (r1 ++ i :: r2) s = some s' →
    ∃ t, zf P A ev ops o s = some t ∧ zS P A ev ops (r1 ++ r2) t = some s'
  | [], s, _, _, _, _, h => by
    rw [List.nil_append, yn hi] at h
    exact oB h
  | k :: r1, s, hn, hq, hf, hk, h => by
    obtain ⟨x, hx, hc⟩ := hk k (List.mem_cons_self ..)
    rw [List.cons_append, yn hx] at h
    obtain ⟨s1, h1, h⟩ := oB h
    rw [List.cons_append, List.nodup_cons] at hn
    have hf1 : Zq A ops (r1 ++ i :: r2) s1 := UG hnd hx hn.1 (fun j hj => hf j (List.mem_cons_of_mem _ hj)) h1
    have hq1 : QR A ops o = true → ∀ d, yL o = some d → WL s1 d := by
      intro hh d hd
      have hap := QE hc
      obtain ⟨a1, _, _⟩ := Oper.apart_spec hap
      have hqx : Ta A x = true := by
        have := Array.all_eq_true_iff_forall_mem.1 (Bool.and_eq_true_iff.1 hh).2 x (Array.mem_of_getElem? hx)
        rw [hap] at this
        simpa using this
      refine old_one hqx (fun he => a1 d he ?_) (hq hh d hd) h1
      unfold yL at hd
      split at hd
      · rename_i ho
        cases hd
        exact List.mem_append_left _ (List.mem_filterMap.2 ⟨.tmp _, by rw [ho]; simp [Op.operands], rfl⟩)
      · cases hd
    obtain ⟨t1, ht1, h⟩ := bubble hr hnd hi hn.2 hq1 hf1 (fun k hk' => hk k (List.mem_cons_of_mem _ hk')) h
    obtain ⟨t, ht, hxt⟩ := swap1 hr hc hq (hf k (List.mem_cons_self ..) x hx) (hf i (List.mem_cons_of_mem _ (by simp)) o hi) h1 ht1
    refine ⟨t, ht, ?_⟩
    rw [List.cons_append, yn hx, hxt]
    exact h
def xF (o : Oper) : List Nat := (o.after.toList.filter fun e => Region.binds .any e).map (·.on)
def maskOf (M : List Nat) (es : List Nat) : Nat := es.foldl (fun m e => m ||| (1 <<< e) ||| M.getD e 0) 0
def QU : List Oper → List Nat → List Nat
  | [], acc => acc
  | o :: r, acc => QU r (acc ++ [maskOf acc (xF o)])
def newDst (A : FAn) (ops : Array Oper) (j : Nat) (o : Oper) : Bool :=
  match zi A o, o.dst with
  | .new, some d => (List.range ops.size).all fun k => Nat.beq k j || (match ops[k]? with | some x => !(x.dst == some d) | none => true)
  | _, _ => true
def wq (cm : Oper → Oper → Bool) (A : FAn) (ops : Array Oper) (M : List Nat) : Nat → List Oper → Bool
  | _, [] => true
  | j, o :: r => ((xF o).all fun e => decide (e < j)) && Nat.beq (M.getD j 0) (maskOf M (xF o)) && newDst A ops j o &&
      ((List.range j).all fun i => (M.getD j 0).testBit i || (match ops[i]? with | some x => cm x o | none => false)) && wq cm A ops M (j + 1) r
def dOk0 (A : FAn) (ops : Array Oper) : Bool := wq (Zg A ops) A ops (QU ops.toList []) 0 ops.toList
variable {cm : Oper → Oper → Bool}
theorem wd {M : List Nat} : ∀ {l : List Oper} {k : Nat}, wq cm A ops M k l = true → ∀ {j : Nat} {o : Oper}, l[j]? = some o →
    (∀ e ∈ xF o, e < k + j) ∧ M.getD (k + j) 0 = maskOf M (xF o) ∧ ∀ i, i < k + j → (M.getD (k + j) 0).testBit i = true ∨ ∃ x, ops[i]? = some x ∧ cm x o = true
  | [], _, _, j, o, ho => by simp at ho
  | x :: l, k, h, j, o, ho => by
    simp only [wq, Bool.and_eq_true] at h
    obtain ⟨⟨⟨⟨h1, h2⟩, _⟩, h3⟩, h4⟩ := h
    cases j with
    | zero =>
      simp at ho; subst ho
      refine ⟨fun e he => by have := List.all_eq_true.1 h1 e he; simpa using this, Nat.eq_of_beq_eq_true h2, fun i hi => ?_⟩
      have := List.all_eq_true.1 h3 i (by simpa using hi)
      simp only [Bool.or_eq_true] at this
      rcases this with h | h
      · exact .inl h
      · refine .inr ?_
        split at h
        · rename_i y hy; exact ⟨y, hy, h⟩
        · cases h
    | succ j =>
      have := wd h4 (j := j) (by simpa using ho)
      rw [show k + (j + 1) = k + 1 + j by omega]
      exact this
theorem UA {M : List Nat} : ∀ {l : List Oper} {k : Nat}, wq cm A ops M k l = true → ∀ {j : Nat} {o : Oper}, l[j]? = some o → newDst A ops (k + j) o = true
  | [], _, _, j, o, ho => by simp at ho
  | x :: l, k, h, j, o, ho => by
    simp only [wq, Bool.and_eq_true] at h
    obtain ⟨⟨⟨⟨_, _⟩, h5⟩, _⟩, h4⟩ := h
    cases j with
    | zero => simp at ho; subst ho; exact h5
    | succ j =>
      have := UA h4 (j := j) (by simpa using ho)
      rw [show k + (j + 1) = k + 1 + j by omega]
      exact this
theorem newDst_of {M : List Nat} (h : wq cm A ops M 0 ops.toList = true) : NewDst A ops := by
  intro j o ho hn d hd k x hk hx
  have := UA h (j := j) (o := o) (by simpa using ho)
  rw [Nat.zero_add] at this
  simp only [newDst, hn, hd] at this
  have h2 := List.all_eq_true.1 this k (by simpa using (Array.getElem?_eq_some_iff.1 hx).1)
  simp only [Bool.or_eq_true, hx, Bool.not_eq_true'] at h2
  rcases h2 with h2 | h2
  · exact absurd (Nat.eq_of_beq_eq_true h2) hk
  · intro e; rw [e] at h2; simp at h2
theorem UT {M : List Nat} {i : Nat} : ∀ {es : List Nat} {m : Nat}, (es.foldl (fun m e => m ||| (1 <<< e) ||| M.getD e 0) m).testBit i = true → m.testBit i = true ∨ ∃ e ∈ es, i = e ∨ (M.getD e 0).testBit i = true
  | [], m, h => .inl h
  | e :: es, m, h => by
    simp only [List.foldl_cons] at h
    rcases UT h with h | ⟨e', he', h⟩
    · simp only [Nat.testBit_or, Bool.or_eq_true] at h
      rcases h with (h | h) | h
      · exact .inl h
      · refine .inr ⟨e, List.mem_cons_self .., .inl ?_⟩
        rw [Nat.shiftLeft_eq, Nat.one_mul, Nat.testBit_two_pow] at h
        exact (of_decide_eq_true h).symm
      · exact .inr ⟨e, List.mem_cons_self .., .inr h⟩
    · exact .inr ⟨e', List.mem_cons_of_mem _ he', h⟩
def wJ (ops : Array Oper) (L : Array Bool) : Prop := ∀ (j : Nat) o, ops[j]? = some o → L.getD j true = true → ∀ e ∈ xF o, L.getD e false = true
theorem Wr {M : List Nat} (hM : wq cm A ops M 0 ops.toList = true) {L : Array Bool} (hL : wJ ops L) (hs : L.size = ops.size) : ∀ (j : Nat) (o : Oper), ops[j]? = some o → (∀ e ∈ xF o, L.getD e false = true) →
    ∀ i, (M.getD j 0).testBit i = true → L.getD i false = true := by
  intro j
  induction j using Nat.strongRecOn with
  | _ j ih =>
    intro o ho hes i hi
    obtain ⟨h1, h2, _⟩ := wd hM (j := j) (o := o) (by simpa using ho)
    rw [Nat.zero_add] at h1 h2
    rw [h2] at hi
    rcases UT hi with h | ⟨e, he, h⟩
    · simp at h
    · rcases h with rfl | h
      · exact hes _ he
      · have hlt := h1 e he
        have hj := (Array.getElem?_eq_some_iff.1 ho).1
        have heo : ops[e]? = some ops[e] := Array.getElem?_eq_getElem (by omega)
        have hel := hes e he
        have hel2 : L.getD e true = true := by
          simp only [Array.getD_eq_getD_getElem?] at hel ⊢
          rw [Array.getElem?_eq_getElem (by omega)] at hel ⊢
          exact hel
        exact ih e hlt _ heo (hL e _ heo hel2) i h
def rem (ops : Array Oper) (L : Array Bool) : List Nat := (List.range ops.size).filter fun i => !L.getD i true
theorem mem_rem {L : Array Bool} {i : Nat} : i ∈ rem ops L ↔ i < ops.size ∧ L.getD i true = false := by
  simp [rem]
theorem wg (L : Array Bool) : (rem ops L).Pairwise (· < ·) := List.Pairwise.filter _ List.pairwise_lt_range
theorem edges_ready {o : Oper} {L : Array Bool} : (o.after.all fun e => !Region.binds .any e || L.getD e.on false) = true ↔ ∀ e ∈ xF o, L.getD e false = true := by
  simp only [Array.all_eq_true_iff_forall_mem, Bool.or_eq_true, Bool.not_eq_true', xF, List.mem_map, List.mem_filter, Array.mem_toList_iff]
  constructor
  · rintro h e ⟨x, ⟨hx, hb⟩, rfl⟩
    rcases h x hx with h | h
    · rw [h] at hb; cases hb
    · exact h
  · intro h x hx
    cases hb : Region.binds .any x with
    | false => exact .inl rfl
    | true => exact .inr (h _ ⟨x, ⟨hx, hb⟩, rfl⟩)
theorem mem_ready {L : Array Bool} {i : Nat} : i ∈ Region.ready .any ops L ↔ ∃ o, ops[i]? = some o ∧ L.getD i true = false ∧ ∀ e ∈ xF o, L.getD e false = true := by
  simp only [Region.ready, List.mem_filter, List.mem_range, Bool.and_eq_true, Bool.not_eq_true']
  constructor
  · rintro ⟨hi, h1, h2⟩
    have ho : ops[i]? = some ops[i] := Array.getElem?_eq_getElem hi
    rw [ho] at h2
    exact ⟨_, ho, h1, edges_ready.1 (by simpa using h2)⟩
  · rintro ⟨o, ho, h1, h2⟩
    refine ⟨(Array.getElem?_eq_some_iff.1 ho).1, h1, ?_⟩
    rw [ho]
    simpa using edges_ready.2 h2
theorem rem_set {L : Array Bool} (hs : L.size = ops.size) {i : Nat} {r1 r2 : List Nat} (h : rem ops L = r1 ++ i :: r2) : rem ops (L.setIfInBounds i true) = r1 ++ r2 := by
  have hi : i ∈ rem ops L := by rw [h]; simp
  have hsz := (mem_rem.1 hi).1
  have e1 : rem ops (L.setIfInBounds i true) = (rem ops L).filter fun k => !decide (k = i) := by
    simp only [rem, List.filter_filter]
    apply List.filter_congr
    intro k hk
    simp only [Array.getD_eq_getD_getElem?]
    by_cases e : i = k
    · subst e; simp [hs, hsz]
    · rw [Array.getElem?_setIfInBounds_ne e]
      simp [Ne.symm e]
  rw [e1, h]
  have hp := wg (ops := ops) L
  rw [h] at hp
  obtain ⟨_, hp2, hp3⟩ := List.pairwise_append.1 hp
  have f1 : r1.filter (fun k => !decide (k = i)) = r1 := List.filter_eq_self.2 fun k hk => by
    have := hp3 k hk i (by simp)
    simp; omega
  have f2 : r2.filter (fun k => !decide (k = i)) = r2 := List.filter_eq_self.2 fun k hk => by
    have := List.rel_of_pairwise_cons hp2 hk
    simp; omega
  rw [List.filter_append, List.filter_cons, f1, f2]
  simp
theorem US {L : Array Bool} (hL : wJ ops L) {i : Nat} {o : Oper} (ho : ops[i]? = some o) (hes : ∀ e ∈ xF o, L.getD e false = true) : wJ ops (L.setIfInBounds i true) := by
  have mono : ∀ e, L.getD e false = true → (L.setIfInBounds i true).getD e false = true := by
    intro e he
    simp only [Array.getD_eq_getD_getElem?] at he ⊢
    by_cases h : i = e
    · subst h
      have hlt : i < L.size := by
        cases hl : L[i]? with
        | none => rw [hl] at he; cases he
        | some b => exact (Array.getElem?_eq_some_iff.1 hl).1
      simp [hlt]
    · rw [Array.getElem?_setIfInBounds_ne h]; exact he
  intro j oj hj hl e he
  by_cases h : i = j
  · subst h; rw [ho] at hj; cases hj; exact mono e (hes e he)
  · refine mono e (hL j oj hj ?_ e he)
    simp only [Array.getD_eq_getD_getElem?] at hl ⊢
    rw [Array.getElem?_setIfInBounds_ne h] at hl; exact hl
end
variable {P : Program} {A : FAn} {ev : Ev} {B : Nat} {Ie : List Loc} {he : AH} {we : World} {ops : Array Oper}
theorem old_rel {I : List Loc} {lam : Nat → Nat} {s : St} {a : Act} {w : World} (r : Rel P B Ie he we I lam s a w) (d : Tmp) : WL s d := by
  intro v id hv hid
  obtain ⟨x, _, hx⟩ := r.tm d v hv
  have hlen := r.hp.len
  unfold scId at hid
  split at hid
  · cases hid
    obtain ⟨L, _, _, hL, _⟩ := hx
    rw [← hlen]; exact (List.getElem?_eq_some_iff.1 hL).1
  · cases hid
    obtain ⟨L, hL, _⟩ := hx
    rw [← hlen]; exact (List.getElem?_eq_some_iff.1 hL).1
  · cases hid
theorem any_in0 (hN : yj P = true) (hor : Zj P B A) (hev : Zz P B ev) (hro : xk A ev) (hd : dOk0 A ops = true) {ro : Option Nat} {Q : Exit → Act → World → Prop} : ∀ (fuel : Nat) {L : Array Bool} {I : List Loc} {lam : Nat → Nat} {s : St} {a : Act} {w : World},
    Rel P B Ie he we I lam s a w → Zq A ops (rem ops L) s → wJ ops L → L.size = ops.size → (rem ops L).length ≤ fuel → ∀ {s' : St}, zS P A ev ops (rem ops L) s = some s' → NextOk P B Ie he we a s' (Q .normal) → wpAnyIn (FW ro) 0 P .any ops Q fuel L a w := by
  have hM : wq (Zg A ops) A ops (QU ops.toList []) 0 ops.toList = true := hd
  have noReady : ∀ {L : Array Bool}, wJ ops L → L.size = ops.size → Region.ready .any ops L = [] → rem ops L = [] := by
    intro L hL hs hr
    cases hrem : rem ops L with
    | nil => rfl
    | cons i r =>
      exfalso
      have hi : i ∈ rem ops L := by rw [hrem]; simp
      obtain ⟨hlt, hl⟩ := mem_rem.1 hi
      have ho : ops[i]? = some ops[i] := Array.getElem?_eq_getElem hlt
      have hready : i ∈ Region.ready .any ops L := mem_ready.2 ⟨_, ho, hl, fun e he => by
        obtain ⟨h1, _, _⟩ := wd hM (j := i) (o := ops[i]) (by simpa using ho)
        have hei := h1 e he
        rw [Nat.zero_add] at hei
        have : e ∉ rem ops L := by
          intro hm
          have hp := wg (ops := ops) L
          rw [hrem] at hp hm
          rcases List.mem_cons.1 hm with rfl | hm
          · omega
          · have := List.rel_of_pairwise_cons hp hm; omega
        have hnl : ¬ (e < ops.size ∧ L.getD e true = false) := fun h => this (mem_rem.2 h)
        have hes : e < ops.size := by omega
        have : L.getD e true = true := by cases hh : L.getD e true with
          | true => rfl
          | false => exact absurd ⟨hes, hh⟩ hnl
        simp only [Array.getD_eq_getD_getElem?] at this ⊢
        rw [Array.getElem?_eq_getElem (by omega)] at this ⊢
        exact this⟩
      rw [hr] at hready; simp at hready
  intro fuel
  induction fuel with
  | zero =>
    intro L I lam s a w r _ hL hs hf s' h hn
    have hrem : rem ops L = [] := List.eq_nil_of_length_eq_zero (by omega)
    rw [hrem] at h; cases h
    refine ⟨?_, hn _ _ _ _ r rfl⟩
    cases hr : Region.ready .any ops L with
    | nil => rfl
    | cons i l =>
      have : i ∈ Region.ready .any ops L := by rw [hr]; simp
      obtain ⟨o, ho, hl, _⟩ := mem_ready.1 this
      have : i ∈ rem ops L := mem_rem.2 ⟨(Array.getElem?_eq_some_iff.1 ho).1, hl⟩
      rw [hrem] at this; simp at this
  | succ fuel ih =>
    intro L I lam s a w r hfr hL hs hf s' h hn
    refine ⟨fun hr => ?_, fun i hi => ?_⟩
    · rw [noReady hL hs hr] at h; cases h
      exact hn _ _ _ _ r rfl
    · obtain ⟨o, ho, hl, hes⟩ := mem_ready.1 hi
      have hm : i ∈ rem ops L := mem_rem.2 ⟨(Array.getElem?_eq_some_iff.1 ho).1, hl⟩
      obtain ⟨r1, r2, hr⟩ := List.append_of_mem hm
      have hp := wg (ops := ops) L
      rw [hr] at hp
      obtain ⟨_, _, hp3⟩ := List.pairwise_append.1 hp
      have hcomm : ∀ k ∈ r1, ∃ x, ops[k]? = some x ∧ Zg A ops x o = true := by
        intro k hk
        have hlt := hp3 k hk i (by simp)
        obtain ⟨_, _, h3⟩ := wd hM (j := i) (o := o) (by simpa using ho)
        rw [Nat.zero_add] at h3
        rcases h3 k hlt with h3 | h3
        · exfalso
          have hkl := Wr hM hL hs i o ho hes k h3
          have hkr : k ∈ rem ops L := by rw [hr]; simp [hk]
          have hkr2 := (mem_rem.1 hkr).2
          have hks := (mem_rem.1 hkr).1
          simp only [Array.getD_eq_getD_getElem?] at hkl hkr2
          rw [Array.getElem?_eq_getElem (by omega)] at hkl hkr2
          simp at hkl hkr2
          rw [hkl] at hkr2; cases hkr2
        · exact h3
      rw [hr] at h
      have hnodup : (r1 ++ i :: r2).Nodup := by rw [← hr]; exact (wg L).imp (fun h => Nat.ne_of_lt h)
      have hnd := newDst_of hM
      obtain ⟨t, ht, h⟩ := bubble hro hnd ho hnodup (fun _ d _ => old_rel r d) (by rw [← hr]; exact hfr) hcomm h
      have hi12 : i ∉ r1 ++ r2 := by
        intro hm
        have hp := List.nodup_append.1 hnodup
        rcases List.mem_append.1 hm with hm | hm
        · exact hp.2.2 i hm i (by simp) rfl
        · exact (List.nodup_cons.1 hp.2.1).1 hm
      have hfr2 : Zq A ops (r1 ++ r2) t := UG hnd ho hi12 (fun j hj => hfr j (by rw [hr]; rcases List.mem_append.1 hj with hj | hj <;> simp [hj])) ht
      refine one_in hN hor hev r ho ht fun I' lam' a' w' r' hd' => ?_
      have hrs := rem_set hs hr
      refine ih r' (by rw [hrs]; exact hfr2) (US hL ho hes) (by simp [hs]) ?_ (s' := s') (by rw [hrs]; exact h) fun I2 l2 a2 w2 r2 hd2 => hn I2 l2 a2 w2 r2 (hd2.trans hd')
      rw [hrs]
      have hlen : (rem ops L).length = r1.length + (r2.length + 1) := by rw [hr]; simp
      simp only [List.length_append]
      omega
end Go.AM
