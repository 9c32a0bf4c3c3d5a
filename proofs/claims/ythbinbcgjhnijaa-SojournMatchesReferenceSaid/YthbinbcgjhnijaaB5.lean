/- The typed machine: cells as plain data; rows given up. -/
import Derived.Test.YthbinbcgjhnijaaB4
set_option linter.all false
namespace Go.TM
open Go Go.AM
section
variable {R : Type} {r : R}
theorem asSc_some {v : TA} {c : TC → Option R} : asSc v c = some r ↔ ∃ s, v = .sc s ∧ c s = some r := by cases v <;> simp [asSc]
theorem asAgg_some {v : TA} {c : List TC → Option R} : asAgg v c = some r ↔ ∃ s, v = .agg s ∧ c s = some r := by cases v <;> simp [asAgg]
theorem asB_some {v : TC} {c : Bool → Option R} : asB v c = some r ↔ ∃ b, v = .bool b ∧ c b = some r := by cases v <;> simp [asB]
theorem asStr_some {v : TC} {c : ByteArray → Option R} : asStr v c = some r ↔ ∃ b, v = .str b ∧ c b = some r := by cases v <;> simp [asStr]
theorem asI_some {k : IntKind} {v : TC} {c : Int → Option R} : asI k v c = some r ↔ ∃ n, v = .int k n ∧ c n = some r := by
  constructor
  · intro h
    cases v with
    | int k' n => simp only [asI] at h; split at h <;> simp_all
    | _ => simp [asI] at h
  · rintro ⟨n, rfl, h⟩; simp [asI, h]
theorem asC_some {α : Type} {l : List α} {c : α → List α → Option R} : asC l c = some r ↔ ∃ x xs, l = x :: xs ∧ c x xs = some r := by
  constructor
  · intro h
    cases l with
    | nil => simp [asC] at h
    | cons x xs => exact ⟨x, xs, rfl, h⟩
  · rintro ⟨x, xs, rfl, h⟩; exact h
theorem asN_some {α : Type} {l : List α} {c : Option R} : asN l c = some r ↔ l = [] ∧ c = some r := by cases l <;> simp [asN]
theorem gB {b : Bool} {c : Option R} : guardB b c = some r ↔ b = true ∧ c = some r := by cases b <;> simp [guardB]
theorem cond_some {b : Bool} {x y : Option R} : cond b x y = some r ↔ (b = true ∧ x = some r) ∨ (b = false ∧ y = some r) := by cases b <;> simp
theorem wB {e : TypeId} {t : Ty} {v : TC} {c : List t.T → Option R} (h : asD e t v c = some r) : (∃ xs, v = .d e t xs ∧ c xs = some r) ∨ (v = .nil ∧ c [] = some r) := by
  unfold asD at h
  split at h
  · replace h := gB.1 h
    obtain ⟨he, h2⟩ := h
    have he := Nat.eq_of_beq_eq_true he
    subst he
    split at h2
    · rename_i ht; subst ht; exact .inl ⟨_, rfl, h2⟩
    · cases h2
  · exact .inr ⟨rfl, h⟩
  · cases h
end
theorem zp {a b : Nat} (h : Nat.beq a b = true) : a = b := Nat.eq_of_beq_eq_true h
variable {P : Program} {h h' : AH} {Z Z' : Nat → Prop} {J J' : List JE} {R : Type} {r : R}
theorem YN : ∀ (t : Ty) {l : List TC} {c : t.T → List TC → Option R} {cs : List Sc}, mkT t l c = some r → CRs P h Z J l cs → ∃ x rest a b, cs = a ++ b ∧ DR P h Z t x a ∧ CRs P h Z J rest b ∧ c x rest = some r
  | .int k, l, c, cs, hx, hr => by
    replace hx := asC_some.1 hx
    obtain ⟨x, xs, rfl, hx1⟩ := hx
    obtain ⟨n, rfl, hx⟩ := asI_some.1 hx1
    cases cs with
    | nil => simp [CRs] at hr
    | cons s ss => simp only [CRs, CR] at hr; exact ⟨n, xs, [s], ss, rfl, by simp [DR, hr.1], hr.2, hx⟩
  | .bool, l, c, cs, hx, hr => by
    replace hx := asC_some.1 hx
    obtain ⟨x, xs, rfl, hx1⟩ := hx
    obtain ⟨n, rfl, hx⟩ := asB_some.1 hx1
    cases cs with
    | nil => simp [CRs] at hr
    | cons s ss => simp only [CRs, CR] at hr; exact ⟨n, xs, [s], ss, rfl, by simp [DR, hr.1], hr.2, hx⟩
  | .str, l, c, cs, hx, hr => by
    replace hx := asC_some.1 hx
    obtain ⟨x, xs, rfl, hx1⟩ := hx
    obtain ⟨n, rfl, hx⟩ := asStr_some.1 hx1
    cases cs with
    | nil => simp [CRs] at hr
    | cons s ss => simp only [CRs, CR] at hr; exact ⟨n, xs, [s], ss, rfl, by simp [DR, hr.1], hr.2, hx⟩
  | .list e t, l, c, cs, hx, hr => by
    replace hx := asC_some.1 hx
    obtain ⟨x, xs, rfl, hx1⟩ := hx
    cases cs with
    | nil => simp [CRs] at hr
    | cons s ss =>
      simp only [CRs] at hr
      rcases wB hx1 with ⟨ys, rfl, hx⟩ | ⟨rfl, hx⟩
      · exact ⟨ys, xs, [s], ss, rfl, ⟨s, rfl, hr.1⟩, hr.2, hx⟩
      · exact ⟨[], xs, [s], ss, rfl, ⟨s, rfl, .inl ⟨rfl, hr.1⟩⟩, hr.2, hx⟩
  | .pair a b, l, c, cs, hx, hr => by
    simp only [mkT] at hx
    obtain ⟨x, l1, c1, c2, rfl, h1, h2, hx1⟩ := YN a hx hr
    obtain ⟨y, l2, c3, c4, rfl, h3, h4, hx2⟩ := YN b hx1 h2
    exact ⟨(x, y), l2, c1 ++ c3, c4, by simp, ⟨c1, c3, rfl, h1, h3⟩, h4, hx2⟩
  | .unit, l, c, cs, hx, hr => ⟨(), l, [], cs, rfl, rfl, hr, hx⟩
theorem mk1_some {t : Ty} {l : List TC} {c : t.T → Option R} {cs : List Sc} (hx : mk1 t l c = some r) (hr : CRs P h Z J l cs) : ∃ x, DR P h Z t x cs ∧ c x = some r := by
  obtain ⟨x, rest, a, b, rfl, h1, h2, h3⟩ := YN t hx hr
  replace h3 := asN_some.1 h3
  obtain ⟨rfl, h3⟩ := h3
  cases b with
  | nil => exact ⟨x, by simpa using h1, h3⟩
  | cons _ _ => simp [CRs] at h2
theorem wZ {t : Ty} : ∀ (n : Nat) {l : List TC} {c : List t.T → Option R} {cs : List Sc}, mkN t n l c = some r → CRs P h Z J l cs → ∃ xs, xs.length = n ∧ Seg (DR P h Z t) xs cs ∧ c xs = some r
  | 0, l, c, cs, hx, hr => by
    replace hx := asN_some.1 hx
    obtain ⟨rfl, hx⟩ := hx
    cases cs with
    | nil => exact ⟨[], rfl, rfl, hx⟩
    | cons _ _ => simp [CRs] at hr
  | n + 1, l, c, cs, hx, hr => by
    simp only [mkN] at hx
    obtain ⟨x, rest, a, b, rfl, h1, h2, hx⟩ := YN t hx hr
    obtain ⟨xs, h3, h4, hx⟩ := wZ n hx h2
    exact ⟨x :: xs, by simp [h3], ⟨a, b, rfl, h1, h4⟩, hx⟩
theorem xZ {e : TypeId} {c : Ty → Option R} (hx : elT P e c = some r) : ∃ t, t.size = P.cellsOf e ∧ (P.info? e).isSome = true ∧ c t = some r := by
  unfold elT at hx
  split at hx
  · obtain ⟨hg, hx⟩ := gB.1 hx
    simp only [Bool.and_eq_true] at hg
    exact ⟨_, zp hg.1, hg.2, hx⟩
  · cases hx
theorem xu {cs : List TC} {off n : Nat} {c : List TC → Option R} (hx : cutK cs off n c = some r) : off + n ≤ cs.length ∧ c ((cs.drop off).take n) = some r := by
  obtain ⟨h1, h2⟩ := gB.1 hx
  exact ⟨of_decide_eq_true h1, h2⟩
theorem Yf {cs v : List TC} {off : Nat} {c : List TC → Option R} (hx : putK cs off v c = some r) : off + v.length ≤ cs.length ∧ c (AM.splice cs off v) = some r := by
  obtain ⟨h1, h2⟩ := gB.1 hx
  exact ⟨of_decide_eq_true h1, h2⟩
theorem zl {H : TH} {i : Nat} {o : TO} (h : zn H i = o) (hd : o.live = true) : H[i]? = some o := by
  unfold zn at h
  rw [List.getD_eq_getElem?_getD] at h
  cases hi : H[i]? with
  | none => rw [hi] at h; simp at h; subst h; simp [TO.live] at hd
  | some x => rw [hi] at h; simp at h; rw [h]
structure RowAt (P : Program) (J : List JE) (h : AH) (Z : Nat → Prop) (je : JE) (e : TypeId) (t : Ty) (xs : List t.T) : Prop where
  z : je.z = t.size
  n : je.n = xs.length
  sz : t.size = P.cellsOf e
  inf : (P.info? e).isSome = true
  at' : (je.v = true ∧ xs = []) ∨ (je.v = false ∧ ∃ cs, h[je.id]? = some (.row true e cs) ∧ cs.length = je.off + xs.length * t.size ∧ Seg (DR P h Z t) xs (cs.drop je.off))
theorem HR.row {H : TH} (hr : HR P J Z H h) {id : Nat} {e : TypeId} {t : Ty} {xs : List t.T} (ho : zn H id = .row e t xs) : ∃ je, J[id]? = some je ∧ RowAt P J h Z je e t xs := by
  have hg := zl ho rfl
  have hlt : id < J.length := by rw [hr.len]; exact (List.getElem?_eq_some_iff.1 hg).1
  obtain ⟨h1, h2, h3, h4, h5⟩ := hr.obj id _ _ hg (List.getElem?_eq_getElem hlt)
  exact ⟨_, List.getElem?_eq_getElem hlt, h1, h2, h3, h4, h5⟩
theorem yr {α : Type} {l : List α} {i j : Nat} {x y : α} (h : (l.set i x)[j]? = some y) : (i = j ∧ y = x) ∨ (i ≠ j ∧ l[j]? = some y) := by
  by_cases e : i = j
  · subst e
    rw [List.getElem?_set_self'] at h
    obtain ⟨z, _, hz⟩ := oM h
    exact .inl ⟨rfl, hz.symm⟩
  · rw [List.getElem?_set_ne e] at h; exact .inr ⟨e, h⟩
theorem OR.mono (x : Ext h Z h' Z') (p : J <+: J') {je : JE} {o : TO} (hs : o.live = true → je.v = false → h'[je.id]? = h[je.id]?) (r : OR P h Z J je o) : OR P h' Z' J' je o := by
  cases o with
  | row e t xs =>
    obtain ⟨h1, h2, h3, h4, h5⟩ := r
    refine ⟨h1, h2, h3, h4, ?_⟩
    rcases h5 with h5 | ⟨hv, cs, h5, h6, h7⟩
    · exact .inl h5
    · exact .inr ⟨hv, cs, (hs rfl hv).trans h5, h6, h7.mono fun _ _ => DR.mono x t⟩
  | crow e cells => obtain ⟨hv, cs, h1, h2⟩ := r; exact ⟨hv, cs, (hs rfl hv).trans h1, CRs.mono x p _ _ h2⟩
  | box e cells => obtain ⟨hv, cs, h1, h2⟩ := r; exact ⟨hv, cs, (hs rfl hv).trans h1, CRs.mono x p _ _ h2⟩
  | dead => trivial
  | loop st pe f key nt sl =>
    obtain ⟨hv, al, h1, h2, h3, h4, h5, h6, h7, h8⟩ := r
    exact ⟨hv, al, (hs rfl hv).trans h1, h2, h3, h4, h5, h6, h7, fun q hq => let ⟨y, k1, k2⟩ := h8 q hq; ⟨y, k1, k2.mono x p⟩⟩
def WE (Z : Nat → Prop) (i : Nat) : Nat → Prop := fun j => Z j ∨ j = i
theorem ext_addZ (h : AH) (Z : Nat → Prop) (i : Nat) : Ext h Z h (WE Z i) := ⟨fun _ h => .inl h, fun _ _ => rfl⟩
theorem HR.kill {H : TH} (hr : HR P J Z H h) {id : Nat} {je : JE} {o : TO} (ho : H[id]? = some o) (hl : o.live = true) (hj : J[id]? = some je) (hv : je.v = false) (hz : je.id < h.length) : HR P J (WE Z je.id) (H.set id .dead) h := by
  refine ⟨by simp [hr.len], fun i o' je' h1 h2 => ?_, fun i j o1 o2 j1 j2 h1 h2 l1 l2 k1 k2 v1 v2 e => ?_, fun i o' je' h1 h2 h3 h4 h5 => ?_, fun i hi => ?_⟩
  · rcases yr h1 with ⟨_, rfl⟩ | ⟨_, h1⟩
    · trivial
    · exact (hr.obj i o' je' h1 h2).mono (ext_addZ h Z _) (List.prefix_refl _) fun _ _ => rfl
  · rcases yr h1 with ⟨_, rfl⟩ | ⟨_, h1⟩
    · simp [TO.live] at l1
    rcases yr h2 with ⟨_, rfl⟩ | ⟨_, h2⟩
    · simp [TO.live] at l2
    exact hr.uniq i j o1 o2 j1 j2 h1 h2 l1 l2 k1 k2 v1 v2 e
  · rcases yr h1 with ⟨_, rfl⟩ | ⟨hne, h1⟩
    · simp [TO.live] at h2
    rcases h5 with h5 | h5
    · exact hr.sep i o' je' h1 h2 h3 h4 h5
    · exact hne (hr.uniq i id o' o je' je h1 ho h2 hl h3 hj h4 hv h5).symm
  · rcases hi with hi | hi
    · exact hr.zlt i hi
    · rw [hi]; exact hz
theorem HR.kill' {H : TH} (hr : HR P J Z H h) (id : Nat) : HR P J Z (H.set id .dead) h := by
  refine ⟨by simp [hr.len], fun i o' je' h1 h2 => ?_, fun i j o1 o2 j1 j2 h1 h2 l1 l2 k1 k2 v1 v2 e => ?_, fun i o' je' h1 h2 h3 h4 h5 => ?_, hr.zlt⟩
  · rcases yr h1 with ⟨_, rfl⟩ | ⟨_, h1⟩
    · trivial
    · exact hr.obj i o' je' h1 h2
  · rcases yr h1 with ⟨_, rfl⟩ | ⟨_, h1⟩
    · simp [TO.live] at l1
    rcases yr h2 with ⟨_, rfl⟩ | ⟨_, h2⟩
    · simp [TO.live] at l2
    exact hr.uniq i j o1 o2 j1 j2 h1 h2 l1 l2 k1 k2 v1 v2 e
  · rcases yr h1 with ⟨_, rfl⟩ | ⟨hne, h1⟩
    · simp [TO.live] at h2
    exact hr.sep i o' je' h1 h2 h3 h4 h5
theorem xX {H : TH} {id b : Nat} (ho : OwnJ J (H.set id .dead) b) : OwnJ J H b := by
  obtain ⟨i, o, je, h1, h2, h3, h4, h5⟩ := ho
  rcases yr h1 with ⟨_, rfl⟩ | ⟨_, h1⟩
  · simp [TO.live] at h2
  · exact ⟨i, o, je, h1, h2, h3, h4, h5⟩
structure Mv (P : Program) (J : List JE) (Z : Nat → Prop) (H : TH) (h : AH) (Z' : Nat → Prop) (H' : TH) : Prop where
  hr : HR P J Z' H' h
  zin : ∀ id, Z id → Z' id
  zout : ∀ id, Z' id → Z id ∨ OwnJ J H id
  own : ∀ id, OwnJ J H' id → OwnJ J H id
  len : H'.length = H.length
theorem Mv.refl {H : TH} (hr : HR P J Z H h) : Mv P J Z H h Z H := ⟨hr, fun _ h => h, fun _ h => .inl h, fun _ h => h, rfl⟩
theorem Mv.trans {H H1 H2 : TH} {Z1 Z2 : Nat → Prop} (a : Mv P J Z H h Z1 H1) (b : Mv P J Z1 H1 h Z2 H2) : Mv P J Z H h Z2 H2 :=
  ⟨b.hr, fun id h => b.zin id (a.zin id h), fun id h => by
    rcases b.zout id h with h | h
    · exact a.zout id h
    · exact .inr (a.own id h), fun id h => a.own id (b.own id h), b.len.trans a.len⟩
theorem Mv.ext {H H1 : TH} {Z1 : Nat → Prop} (a : Mv P J Z H h Z1 H1) : Ext h Z h Z1 := ⟨a.zin, fun _ _ => rfl⟩
theorem RowAt.cut {je : JE} {e : TypeId} {t : Ty} {xs : List t.T} (ra : RowAt P J h Z je e t xs) {Z' : Nat → Prop} (hz2 : je.v = false → Z' je.id) {o n : Nat} (hn : o + n ≤ xs.length) {s : Sc}
    (hs : (je.v = true ∧ ∃ b, s = .nils b) ∨ (je.v = false ∧ s = .sl je.id (je.off + o * je.z) n)) : SlR P h Z' e t.size (DR P h Z t) ((xs.drop o).take n) s := by
  rcases hs with ⟨hv, b, rfl⟩ | ⟨hv, rfl⟩
  · rcases ra.at' with ⟨_, rfl⟩ | ⟨hv', _⟩
    · exact .inl ⟨by simp, b, rfl⟩
    · rw [hv] at hv'; cases hv'
  · rcases ra.at' with ⟨hv', _⟩ | ⟨_, cs, h1, h2, h3⟩
    · rw [hv] at hv'; cases hv'
    · have hl : ((xs.drop o).take n).length = n := by simp; omega
      have hz := fun x cs (r : DR P h Z t x cs) => r.length
      obtain ⟨_, k1⟩ := Seg.split hz o h3
      obtain ⟨k2, _⟩ := Seg.split hz n k1
      refine .inr ⟨je.id, je.off + o * je.z, _, cs, by rw [hl], hz2 hv, h1, rfl, rfl, ra.sz, ?_, ?_⟩
      · rw [hl, ra.z, h2, Nat.add_assoc, ← Nat.add_mul]
        exact Nat.add_le_add_left (Nat.mul_le_mul_right _ hn) _
      · rw [hl, ra.z, ← List.drop_drop]; exact k2
theorem RowAt.whole {je : JE} {e : TypeId} {t : Ty} {xs : List t.T} (ra : RowAt P J h Z je e t xs) {Z' : Nat → Prop} (hz2 : je.v = false → Z' je.id) {s : Sc}
    (hs : (je.v = true ∧ ∃ b, s = .nils b) ∨ (je.v = false ∧ s = .sl je.id je.off je.n)) : SlR P h Z' e t.size (DR P h Z t) xs s := by
  have := ra.cut hz2 (o := 0) (n := xs.length) (by omega) (s := s) (by simpa [ra.n] using hs)
  simpa using this
theorem SlR.up {e : TypeId} {z : Nat} {t : Ty} {xs : List t.T} {s : Sc} (hz : ∀ i, Z i → Z' i) (q : SlR P h Z' e z (DR P h Z t) xs s) : SlR P h Z' e z (DR P h Z' t) xs s :=
  q.mono (Ext.refl _ _) fun _ _ => DR.mono ⟨hz, fun _ _ => rfl⟩ t
variable {P : Program} {J J' J1 J2 : List JE} {Z Z' Z1 Z2 : Nat → Prop} {H H' H1 H2 : TH} {h h' h1 h2 : AH}
structure Step (P : Program) (J : List JE) (Z : Nat → Prop) (H : TH) (h : AH) (J' : List JE) (Z' : Nat → Prop) (H' : TH) (h' : AH) : Prop where
  hr : HR P J' Z' H' h'
  kp : Kp J Z H h J' Z' H' h'
theorem Kp.refl (J : List JE) (Z : Nat → Prop) (H : TH) (h : AH) : Kp J Z H h J Z H h :=
  ⟨Nat.le_refl _, List.prefix_refl _, fun _ _ _ => rfl, fun _ h => .inl h, fun _ h => h, fun _ h => .inl h⟩
theorem Kp.trans (a : Kp J Z H h J1 Z1 H1 h1) (b : Kp J1 Z1 H1 h1 J2 Z2 H2 h2) : Kp J Z H h J2 Z2 H2 h2 where
  len := Nat.le_trans a.len b.len
  pre := a.pre.trans b.pre
  same id hl ho := by
    refine (b.same id (Nat.lt_of_lt_of_le hl a.len) fun hw => ?_).trans (a.same id hl ho)
    rcases a.own id hw with hw | hw
    · exact ho hw
    · omega
  own id ho := by
    rcases b.own id ho with ho | ho
    · exact a.own id ho
    · exact .inr (Nat.le_trans a.len ho)
  zin id hz := b.zin id (a.zin id hz)
  zout id hz := by
    rcases b.zout id hz with hz | hz | hz
    · exact a.zout id hz
    · rcases a.own id hz with hz | hz
      · exact .inr (.inl hz)
      · exact .inr (.inr hz)
    · exact .inr (.inr (Nat.le_trans a.len hz))
theorem Step.refl (hr : HR P J Z H h) : Step P J Z H h J Z H h := ⟨hr, Kp.refl ..⟩
theorem Step.trans (a : Step P J Z H h J1 Z1 H1 h1) (b : Step P J1 Z1 H1 h1 J2 Z2 H2 h2) : Step P J Z H h J2 Z2 H2 h2 := ⟨b.hr, a.kp.trans b.kp⟩
theorem HR.notOwn (hr : HR P J Z H h) {id : Nat} (hz : Z id) : ¬ OwnJ J H id := by
  rintro ⟨i, o, je, h1, h2, h3, h4, rfl⟩
  exact hr.sep i o je h1 h2 h3 h4 hz
theorem Step.ext (hr : HR P J Z H h) (s : Step P J Z H h J' Z' H' h') : Ext h Z h' Z' :=
  ⟨s.kp.zin, fun id hz => s.kp.same id (hr.zlt id hz) (hr.notOwn hz)⟩
theorem Mv.step {hr : HR P J Z H h} (m : Mv P J Z H h Z' H') : Step P J Z H h J Z' H' h :=
  ⟨m.hr, ⟨Nat.le_refl _, List.prefix_refl _, fun _ _ _ => rfl, fun id ho => .inl (m.own id ho), m.zin, fun id hz => by
    rcases m.zout id hz with hz | hz
    · exact .inl hz
    · exact .inr (.inl hz)⟩⟩
theorem OR.lt {je : JE} {o : TO} (hl : o.live = true) (hv : je.v = false) (r : OR P h Z J je o) : je.id < h.length := by
  cases o with
  | row e t xs =>
    rcases r.2.2.2.2 with ⟨h5, _⟩ | ⟨_, cs, h5, _⟩
    · rw [hv] at h5; cases h5
    · exact (List.getElem?_eq_some_iff.1 h5).1
  | crow e cells => obtain ⟨_, cs, h1, _⟩ := r; exact (List.getElem?_eq_some_iff.1 h1).1
  | box e cells => obtain ⟨_, cs, h1, _⟩ := r; exact (List.getElem?_eq_some_iff.1 h1).1
  | dead => simp [TO.live] at hl
  | loop st pe f key nt sl => obtain ⟨_, al, h1, _⟩ := r; exact (List.getElem?_eq_some_iff.1 h1).1
theorem OwnJ.lt (hr : HR P J Z H h) {id : Nat} (ho : OwnJ J H id) : id < h.length := by
  obtain ⟨i, o, je, h1, h2, h3, h4, rfl⟩ := ho
  exact OR.lt h2 h4 (hr.obj i o je h1 h3)
theorem get_snoc {α : Type} {l : List α} {x y : α} {i : Nat} (h : (l ++ [x])[i]? = some y) : (i < l.length ∧ l[i]? = some y) ∨ (i = l.length ∧ y = x) := by
  rcases Nat.lt_or_ge i l.length with hi | hi
  · rw [List.getElem?_append_left hi] at h; exact .inl ⟨hi, h⟩
  · rw [List.getElem?_append_right hi] at h
    cases hk : i - l.length with
    | zero => rw [hk] at h; simp at h; exact .inr ⟨by omega, h.symm⟩
    | succ k => rw [hk] at h; simp at h
theorem xR {α β : Type} {l : List α} {m : List β} (hl : m.length = l.length) {x y : α} {u v : β} {i : Nat} (h : (l ++ [x])[i]? = some y) (k : (m ++ [u])[i]? = some v) : (i < l.length ∧ l[i]? = some y ∧ m[i]? = some v) ∨ (i = l.length ∧ y = x ∧ v = u) := by
  rcases get_snoc h with ⟨h1, h2⟩ | ⟨h1, h2⟩ <;> rcases get_snoc k with ⟨k1, k2⟩ | ⟨k1, k2⟩
  · exact .inl ⟨h1, h2, k2⟩
  · omega
  · omega
  · exact .inr ⟨h1, h2, k2⟩
theorem HR.add (hr : HR P J Z H h) {je : JE} {o : TO} (ho : OR P h Z (J ++ [je]) je o) (hn : je.v = false → ¬ OwnJ J H je.id ∧ ¬ Z je.id) : HR P (J ++ [je]) Z (H ++ [o]) h := by
  have hp : J <+: J ++ [je] := List.prefix_append _ _
  refine ⟨by simp [hr.len], fun i o' je' h1 h2 => ?_, fun i j o1 o2 j1 j2 h1 h2 l1 l2 k1 k2 v1 v2 e => ?_, fun i o' je' h1 h2 h3 h4 h5 => ?_, hr.zlt⟩
  · rcases xR hr.len h1 h2 with ⟨_, a, b⟩ | ⟨_, rfl, rfl⟩
    · exact (hr.obj i o' je' a b).mono (Ext.refl _ _) hp fun _ _ => rfl
    · exact ho
  · rcases xR hr.len h1 k1 with ⟨_, a, b⟩ | ⟨a, rfl, rfl⟩ <;> rcases xR hr.len h2 k2 with ⟨_, c, d⟩ | ⟨c, rfl, rfl⟩
    · exact hr.uniq i j o1 o2 j1 j2 a c l1 l2 b d v1 v2 e
    · exact absurd ⟨i, o1, j1, a, l1, b, v1, e⟩ (hn v2).1
    · exact absurd ⟨j, o2, j2, c, l2, d, v2, e.symm⟩ (hn v1).1
    · omega
  · rcases xR hr.len h1 h3 with ⟨_, a, b⟩ | ⟨a, rfl, rfl⟩
    · exact hr.sep i o' je' a h2 b h4 h5
    · exact (hn h4).2 h5
theorem VH {je : JE} {o : TO} (hl : J.length = H.length) {b : Nat} (ho : OwnJ (J ++ [je]) (H ++ [o]) b) : OwnJ J H b ∨ (o.live = true ∧ je.v = false ∧ b = je.id) := by
  obtain ⟨i, o', je', h1, h2, h3, h4, h5⟩ := ho
  rcases xR hl h1 h3 with ⟨_, a, b⟩ | ⟨a, rfl, rfl⟩
  · exact .inl ⟨i, o', je', a, h2, b, h4, h5⟩
  · exact .inr ⟨h2, h4, h5.symm⟩
theorem HR.grow (hr : HR P J Z H h) (ao : AO) : HR P J Z H (h ++ [ao]) := by
  have x : Ext h Z (h ++ [ao]) Z := ⟨fun _ h => h, fun id hz => List.getElem?_append_left (hr.zlt id hz)⟩
  refine ⟨hr.len, fun i o je h1 h2 => (hr.obj i o je h1 h2).mono x (List.prefix_refl _) fun hl hv => List.getElem?_append_left (OR.lt hl hv (hr.obj i o je h1 h2)), hr.uniq, hr.sep, fun id hz => ?_⟩
  have := hr.zlt id hz
  simp; omega
theorem Wh (hr : HR P J Z H h) {je : JE} {o : TO} {ao : AO} (hid : je.id = h.length) (ho : OR P (h ++ [ao]) Z (J ++ [je]) je o) : Step P J Z H h (J ++ [je]) Z (H ++ [o]) (h ++ [ao]) := by
  have hg := hr.grow ao
  have hn : ¬ OwnJ J H je.id := fun hw => by have := OwnJ.lt hr hw; omega
  refine ⟨hg.add ho fun _ => ⟨hn, fun hz => by have := hr.zlt _ hz; omega⟩, ⟨by simp, List.prefix_append _ _, fun id hl _ => List.getElem?_append_left hl, fun id hw => ?_, fun _ h => h, fun _ h => .inl h⟩⟩
  rcases VH hr.len hw with hw | ⟨_, _, hw⟩
  · exact .inl hw
  · exact .inr (by omega)
theorem step_virt (hr : HR P J Z H h) {je : JE} {o : TO} (hv : je.v = true) (ho : OR P h Z (J ++ [je]) je o) : Step P J Z H h (J ++ [je]) Z (H ++ [o]) h := by
  refine ⟨hr.add ho (fun h => by rw [hv] at h; cases h), ⟨Nat.le_refl _, List.prefix_append _ _, fun id hl _ => rfl, fun id hw => ?_, fun _ h => h, fun _ h => .inl h⟩⟩
  rcases VH hr.len hw with hw | ⟨_, hw, _⟩
  · exact .inl hw
  · rw [hv] at hw; cases hw
theorem xY (hr : HR P J Z H h) {i : Nat} {o o' : TO} {je : JE} {ao : AO} (hi : H[i]? = some o) (hl : o.live = true) (hj : J[i]? = some je) (hv : je.v = false) (ho : OR P (h.set je.id ao) Z J je o') : Step P J Z H h J Z (H.set i o') (h.set je.id ao) := by
  have hown : OwnJ J H je.id := ⟨i, o, je, hi, hl, hj, hv, rfl⟩
  have hz : ∀ id, Z id → je.id ≠ id := fun id h1 h2 => hr.notOwn h1 (h2 ▸ hown)
  have x : Ext h Z (h.set je.id ao) Z := ⟨fun _ h => h, fun id h1 => List.getElem?_set_ne (hz id h1)⟩
  have own2 : ∀ b, OwnJ J (H.set i o') b → OwnJ J H b := by
    rintro b ⟨j, o2, j2, h1, h2, h3, h4, rfl⟩
    rcases yr h1 with ⟨rfl, _⟩ | ⟨_, h1⟩
    · rw [hj] at h3; cases h3; exact hown
    · exact ⟨j, o2, j2, h1, h2, h3, h4, rfl⟩
  refine ⟨⟨by simp [hr.len], fun j o2 j2 h1 h2 => ?_, fun j k o1 o2 j1 j2 h1 h2 l1 l2 k1 k2 v1 v2 e => ?_, fun j o2 j2 h1 h2 h3 h4 h5 => ?_, fun id hz => by simpa using hr.zlt id hz⟩,
    ⟨by simp, List.prefix_refl _, fun id _ hn => List.getElem?_set_ne fun (he : je.id = id) => hn (he ▸ hown), fun id hw => .inl (own2 id hw), fun _ h => h, fun _ h => .inl h⟩⟩
  · rcases yr h1 with ⟨rfl, rfl⟩ | ⟨hne, h1⟩
    · rw [hj] at h2; cases h2; exact ho
    · refine (hr.obj j o2 j2 h1 h2).mono x (List.prefix_refl _) fun l2 v2 => List.getElem?_set_ne fun he => hne (hr.uniq i j o o2 je j2 hi h1 hl l2 hj h2 hv v2 he)
  · rcases yr h1 with ⟨e1, _⟩ | ⟨n1, g1⟩ <;> rcases yr h2 with ⟨e2, _⟩ | ⟨n2, g2⟩
    · exact e1.symm.trans e2
    · subst e1; rw [hj] at k1; cases k1
      exact hr.uniq i k o o2 je j2 hi g2 hl l2 hj k2 hv v2 e
    · subst e2; rw [hj] at k2; cases k2
      exact hr.uniq j i o1 o j1 je g1 hi l1 hl k1 hj v1 hv e
    · exact hr.uniq j k o1 o2 j1 j2 g1 g2 l1 l2 k1 k2 v1 v2 e
  · rcases yr h1 with ⟨rfl, rfl⟩ | ⟨hne, h1⟩
    · rw [hj] at h3; cases h3; exact hr.sep i o je hi hl hj hv h5
    · exact hr.sep j o2 j2 h1 h2 h3 h4 h5
theorem TR (hr : HR P J Z H h) {i : Nat} {o : TO} {je : JE} (hi : H[i]? = some o) (hl : o.live = true) (hj : J[i]? = some je) (hv : je.v = false) : Step P J Z H h J (WE Z je.id) (H.set i .dead) h :=
  ⟨hr.kill hi hl hj hv (OR.lt hl hv (hr.obj i o je hi hj)), ⟨Nat.le_refl _, List.prefix_refl _, fun _ _ _ => rfl, fun id ho => .inl (xX ho), fun _ h => .inl h, fun id hz => by
    rcases hz with hz | hz
    · exact .inl hz
    · exact .inr (.inl ⟨i, o, je, hi, hl, hj, hv, hz.symm⟩)⟩⟩
theorem Wn (hr : HR P J Z H h) (i : Nat) : Step P J Z H h J Z (H.set i .dead) h :=
  ⟨hr.kill' i, ⟨Nat.le_refl _, List.prefix_refl _, fun _ _ _ => rfl, fun id ho => .inl (xX ho), fun _ h => h, fun _ h => .inl h⟩⟩
theorem not_own_kill (hr : HR P J Z H h) {i : Nat} {o : TO} {je : JE} (hi : H[i]? = some o) (hl : o.live = true) (hj : J[i]? = some je) (hv : je.v = false) : ¬ OwnJ J (H.set i .dead) je.id := by
  rintro ⟨j, o2, j2, h1, h2, h3, h4, h5⟩
  rcases yr h1 with ⟨_, rfl⟩ | ⟨hne, h1⟩
  · simp [TO.live] at h2
  · exact hne (hr.uniq i j o o2 je j2 hi h1 hl h2 hj h3 hv h4 h5.symm)
theorem Qx (hr : HR P J Z H h) {i : Nat} {o o' : TO} {je je' : JE} (hi : H[i]? = some o) (hl : o.live = true) (hj : J[i]? = some je) (hv : je.v = false) (hid : je'.id = je.id) (ho : OR P h Z (J ++ [je']) je' o') : Step P J Z H h (J ++ [je']) Z (H.set i .dead ++ [o']) h := by
  have hown : OwnJ J H je.id := ⟨i, o, je, hi, hl, hj, hv, rfl⟩
  have s1 := Wn hr i
  have h2 := s1.hr.add ho fun _ => by rw [hid]; exact ⟨not_own_kill hr hi hl hj hv, hr.sep i o je hi hl hj hv⟩
  refine ⟨h2, ⟨Nat.le_refl _, List.prefix_append _ _, fun _ _ _ => rfl, fun id hw => ?_, fun _ h => h, fun _ h => .inl h⟩⟩
  rcases VH s1.hr.len hw with hw | ⟨_, _, hw⟩
  · exact .inl (xX hw)
  · rw [hw, hid]; exact .inl hown
theorem RowAt.or {je : JE} {e : TypeId} {t : Ty} {xs : List t.T} (ra : RowAt P J h Z je e t xs) : OR P h Z J je (.row e t xs) := ⟨ra.z, ra.n, ra.sz, ra.inf, ra.at'⟩
theorem Us (hr : HR P J Z H h) {id : Nat} {e : TypeId} {t : Ty} {xs : List t.T} (ho : zn H id = .row e t xs) : ∃ je Z', J[id]? = some je ∧ RowAt P J h Z je e t xs ∧ Mv P J Z H h Z' (H.set id .dead) ∧ (∀ i, Z i → Z' i) ∧ (je.v = false → Z' je.id) := by
  obtain ⟨je, hj, ra⟩ := hr.row ho
  have hi := zl ho rfl
  cases hv : je.v with
  | true =>
    refine ⟨je, Z, hj, ra, ⟨hr.kill' id, fun _ h => h, fun _ h => .inl h, fun _ h => xX h, by simp⟩, fun _ h => h, fun h => by rw [hv] at h; cases h⟩
  | false =>
    have s := TR hr hi rfl hj hv
    refine ⟨je, WE Z je.id, hj, ra, ⟨s.hr, s.kp.zin, fun b hb => ?_, fun _ h => xX h, by simp⟩, s.kp.zin, fun _ => .inr rfl⟩
    rcases hb with hb | hb
    · exact .inl hb
    · exact .inr ⟨id, _, je, hi, rfl, hj, hv, hb.symm⟩
theorem WF {R : Type} {r : R} {f : TC → TH → (TC → TH → Option R) → Option R}
    (hf : ∀ {v : TC} {H : TH} {c : TC → TH → Option R} {Z : Nat → Prop} {s : Sc}, f v H c = some r → HR P J Z H h → CR P h Z J v s → ∃ v' H' Z', Mv P J Z H h Z' H' ∧ CR P h Z' J v' s ∧ c v' H' = some r) :
    ∀ {l : List TC} {H : TH} {c : List TC → TH → Option R} {Z : Nat → Prop} {ss : List Sc}, seqK f l H c = some r → HR P J Z H h → CRs P h Z J l ss → ∃ l' H' Z', Mv P J Z H h Z' H' ∧ CRs P h Z' J l' ss ∧ c l' H' = some r
  | [], H, c, Z, ss, hx, hr, hc => ⟨[], H, Z, Mv.refl hr, hc, hx⟩
  | x :: l, H, c, Z, ss, hx, hr, hc => by
    cases ss with
    | nil => simp [CRs] at hc
    | cons s ss =>
      simp only [CRs] at hc
      obtain ⟨v', H1, Z1, m1, c1, hx1⟩ := hf hx hr hc.1
      obtain ⟨l', H2, Z2, m2, c2, hx2⟩ := WF hf hx1 m1.hr (CRs.mono m1.ext (List.prefix_refl _) _ _ hc.2)
      exact ⟨v' :: l', H2, Z2, m1.trans m2, by simp only [CRs]; exact ⟨CR.mono m2.ext (List.prefix_refl _) _ _ c1, c2⟩, hx2⟩
theorem Ve {R : Type} {r : R} : ∀ (k : Nat) {v : TC} {H : TH} {c : TC → TH → Option R} {Z : Nat → Prop} {s : Sc}, frzC P k v H c = some r → HR P J Z H h → CR P h Z J v s → ∃ v' H' Z', Mv P J Z H h Z' H' ∧ CR P h Z' J v' s ∧ c v' H' = some r
  | 0, v, H, c, Z, s, hx, hr, hc => by cases hx
  | k + 1, v, H, c, Z, s, hx, hr, hc => by
    unfold frzC at hx
    split at hx
    · rename_i id
      split at hx
      · rename_i e t xs ho
        obtain ⟨je, Z', hj, ra, m, hz, hz2⟩ := Us hr ho
        obtain ⟨je2, hj2, hs⟩ := hc
        rw [hj] at hj2; cases hj2
        exact ⟨.d e t xs, _, Z', m, (ra.whole hz2 hs).up hz, hx⟩
      · cases hx
    · rename_i id o n
      split at hx
      · rename_i e t xs ho
        obtain ⟨je, Z', hj, ra, m, hz, hz2⟩ := Us hr ho
        obtain ⟨je2, hj2, hs⟩ := hc
        rw [hj] at hj2; cases hj2
        obtain ⟨hg, hx⟩ := gB.1 hx
        have hg := of_decide_eq_true hg
        refine ⟨.d e t ((xs.drop o).take n), _, Z', m, (ra.cut hz2 hg ?_).up hz, hx⟩
        rcases hs with ⟨h1, _, h2⟩ | hs
        · exact .inl ⟨h1, h2⟩
        · exact .inr hs
      · cases hx
    · rename_i id o n
      split at hx
      · rename_i e cs ho
        obtain ⟨t, hsz, hinf, hx⟩ := xZ hx
        obtain ⟨hle, hx⟩ := xu hx
        have hi := zl ho rfl
        obtain ⟨je, hj, hv, rfl⟩ := hc
        have hob := hr.obj id _ je hi hj
        obtain ⟨_, cs', hg, hcs⟩ := hob
        have st := TR hr hi rfl hj hv
        have x1 := st.ext hr
        have hcut := (hcs.drop o).take (n * t.size)
        obtain ⟨l', H2, Z2, m2, c2, hx⟩ := WF (fun {v H c Z s} => Ve k) hx st.hr (CRs.mono x1 (List.prefix_refl _) _ _ hcut)
        obtain ⟨xs, hn, hseg, hx⟩ := wZ n hx c2
        have hlen := hcs.length
        refine ⟨.d e t xs, _, Z2, ⟨m2.hr, fun i hi => m2.zin i (st.kp.zin i hi), fun b hb => ?_, fun b hb => xX (m2.own b hb), by rw [m2.len]; simp⟩, .inr ⟨je.id, o, _, cs', by rw [hn], m2.zin _ (.inr rfl), hg, rfl, rfl, hsz, by rw [hn]; omega, ?_⟩, hx⟩
        · rcases m2.zout b hb with hb | hb
          · rcases hb with hb | hb
            · exact .inl hb
            · exact .inr ⟨id, _, je, hi, rfl, hj, hv, hb.symm⟩
          · exact .inr (xX hb)
        · rw [hn]; exact hseg
      · cases hx
    · exact ⟨v, H, Z, Mv.refl hr, hc, hx⟩
theorem WO {R : Type} {r : R} {l : List TC} {H : TH} {c : List TC → TH → Option R} {Z : Nat → Prop} {ss : List Sc} (hx : frzL P l H c = some r) (hr : HR P J Z H h) (hc : CRs P h Z J l ss) : ∃ l' H' Z', Mv P J Z H h Z' H' ∧ CRs P h Z' J l' ss ∧ c l' H' = some r :=
  WF (fun {v H c Z s} => Ve 3) hx hr hc
variable {P : Program} {J0 J J' : List JE} {Z0 Z Z' : Nat → Prop} {H0 H H' : TH} {h0 h h' : AH} {s : TS} {a : AM.St} {R : Type} {r : R}
theorem StR.put (q : StR P J0 Z0 H0 h0 J Z s a) (d : Option Tmp) {v : TV} {x : AM.SV} (hv : SR P a.h Z J v x) : StR P J0 Z0 H0 h0 J Z (TM.setSl s d v) (AM.setSl a d x) := by
  cases d with
  | none => exact q
  | some d =>
    refine ⟨fun i y hu => ?_, fun i y hu => ?_, q.lo, q.lt, q.hp, q.kp, q.n0, q.j0⟩
    · by_cases e : d = i
      · subst e
        simp only [TM.setSl, Tr.get_set_self] at hu
        obtain ⟨y0, hy, rfl⟩ := oM hu
        obtain ⟨x0, hx0, _⟩ := q.tm d y0 hy
        exact ⟨x, by simp [AM.setSl, Tr.get_set_self, hx0], hv⟩
      · simp only [TM.setSl, Tr.get_set_ne _ e] at hu
        obtain ⟨z, hz, hr⟩ := q.tm i y hu
        exact ⟨z, by simp only [AM.setSl, Tr.get_set_ne _ e]; exact hz, hr⟩
    · by_cases e : d = i
      · subst e
        simp only [AM.setSl, Tr.get_set_self] at hu
        obtain ⟨y0, hy, rfl⟩ := oM hu
        obtain ⟨v0, hv0⟩ := q.mt d y0 hy
        exact ⟨v, by simp [TM.setSl, Tr.get_set_self, hv0]⟩
      · simp only [AM.setSl, Tr.get_set_ne _ e] at hu
        obtain ⟨z, hz⟩ := q.mt i y hu
        exact ⟨z, by simp only [TM.setSl, Tr.get_set_ne _ e]; exact hz⟩
theorem xD (s : TS) (d : Option Tmp) (v : TV) (c : TS → Option R) : TM.setK s d v c = c (TM.setSl s d v) := by
  cases d with
  | none => rfl
  | some d => simp only [TM.setK, Tr.setT_eq, TM.setSl]
theorem Wt (s : TS) (d : Tmp) (v : TV) (cs : List TC) (c : TS → Option R) : TM.newLocalK s d v cs c = c (TM.newLocal s d v cs) := by
  simp only [TM.newLocalK, Tr.setT_eq, TM.newLocal]
theorem StR.mem (q : StR P J0 Z0 H0 h0 J Z s a) (st : Step P J Z s.h a.h J' Z' H' h') : StR P J0 Z0 H0 h0 J' Z' { s with h := H' } { a with h := h' } := by
  have x := st.ext q.hp
  refine ⟨fun i v hv => ?_, q.mt, fun k cs hk => ?_, q.lt, st.hr, q.kp.trans st.kp, q.n0, q.j0⟩
  · obtain ⟨y, h1, h2⟩ := q.tm i v hv
    exact ⟨y, h1, h2.mono x st.kp.pre⟩
  · obtain ⟨cs', h1, h2⟩ := q.lo k cs hk
    exact ⟨cs', h1, CRs.mono x st.kp.pre _ _ h2⟩
theorem killL_SR {d : Nat} {v : TV} {x : AM.SV} (hv : SR P h Z J v x) : SR P h Z J (TM.killL d v) (AM.killL d x) := by
  cases v with
  | u => cases x <;> simp only [SR, TM.killL, AM.killL, YO] at hv ⊢ <;> simp_all
  | l k o => simp only [SR] at hv; subst hv; simp only [TM.killL, AM.killL]; cases Nat.beq k d <;> simp [SR, YO]
  | s k n => simp only [SR] at hv; subst hv; simp only [TM.killL, AM.killL]; cases Nat.beq k d <;> simp [SR, YO]
  | no => simp only [SR] at hv; subst hv; simp [TM.killL, AM.killL, SR]
  | w => trivial
  | v y => obtain ⟨z, rfl, h2⟩ := hv; exact ⟨z, rfl, h2⟩
  | t y => obtain ⟨z, rfl, h2⟩ := hv; exact ⟨z, rfl, h2⟩
  | e t xs i off => obtain ⟨id, o, ob, cs, rfl, h1⟩ := hv; exact ⟨id, o, ob, cs, rfl, h1⟩
  | p id i off => obtain ⟨je, h1, h2, rfl⟩ := hv; exact ⟨je, h1, h2, rfl⟩
theorem StR.newLocal (q : StR P J0 Z0 H0 h0 J Z s a) (d : Nat) {v : TV} {x : AM.SV} (hv : SR P a.h Z J v x) {cs : List TC} {cs' : List Sc} (hc : CRs P a.h Z J cs cs') :
    StR P J0 Z0 H0 h0 J Z (TM.newLocal s d v cs) (AM.newLocal a d x cs') := by
  refine ⟨fun i y hu => ?_, fun i y hu => ?_, fun k c hk => ?_, fun k c hk => ?_, q.hp, q.kp, q.n0, q.j0⟩
  · by_cases e : d = i
    · subst e
      simp only [TM.newLocal, Tr.get_set_self, Tr.get_map] at hu
      obtain ⟨y0, hy, rfl⟩ := oM hu
      obtain ⟨y1, hy1, _⟩ := oM hy
      obtain ⟨x0, hx0, _⟩ := q.tm d y1 hy1
      exact ⟨x, by simp [AM.newLocal, Tr.get_set_self, Tr.get_map, hx0], hv⟩
    · simp only [TM.newLocal, Tr.get_set_ne _ e, Tr.get_map] at hu
      obtain ⟨y0, hy, rfl⟩ := oM hu
      obtain ⟨z, hz, hr⟩ := q.tm i y0 hy
      exact ⟨AM.killL d z, by simp only [AM.newLocal, Tr.get_set_ne _ e, Tr.get_map, hz, Option.map_some], killL_SR hr⟩
  · by_cases e : d = i
    · subst e
      simp only [AM.newLocal, Tr.get_set_self, Tr.get_map] at hu
      obtain ⟨y0, hy, rfl⟩ := oM hu
      obtain ⟨y1, hy1, _⟩ := oM hy
      obtain ⟨v0, hv0⟩ := q.mt d y1 hy1
      exact ⟨v, by simp [TM.newLocal, Tr.get_set_self, Tr.get_map, hv0]⟩
    · simp only [AM.newLocal, Tr.get_set_ne _ e, Tr.get_map] at hu
      obtain ⟨y0, hy, rfl⟩ := oM hu
      obtain ⟨z, hz⟩ := q.mt i y0 hy
      exact ⟨TM.killL d z, by simp only [TM.newLocal, Tr.get_set_ne _ e, Tr.get_map, hz, Option.map_some]⟩
  · by_cases e : d = k
    · subst e
      simp only [TM.newLocal, Tr.get_set_self] at hk
      obtain ⟨y0, hy, hk⟩ := oM hk
      simp at hk; subst hk
      obtain ⟨y1, hy1⟩ := q.lt d y0 hy
      exact ⟨cs', by simp [AM.newLocal, Tr.get_set_self, hy1], hc⟩
    · simp only [TM.newLocal, Tr.get_set_ne _ e] at hk
      obtain ⟨c', h1, h2⟩ := q.lo k c hk
      exact ⟨c', by simp only [AM.newLocal, Tr.get_set_ne _ e]; exact h1, h2⟩
  · by_cases e : d = k
    · subst e
      simp only [TM.newLocal, Tr.get_set_self] at hk
      obtain ⟨y0, hy, hk⟩ := oM hk
      obtain ⟨y1, hy1⟩ := q.lt d y0 hy
      exact ⟨some cs', by simp [AM.newLocal, Tr.get_set_self, hy1]⟩
    · simp only [TM.newLocal, Tr.get_set_ne _ e] at hk
      obtain ⟨y1, hy1⟩ := q.lt k c hk
      exact ⟨y1, by simp only [AM.newLocal, Tr.get_set_ne _ e]; exact hy1⟩
theorem StR.setLocal (q : StR P J0 Z0 H0 h0 J Z s a) {k : Nat} {cs0 : List TC} (hk0 : s.lo.get k = some (some cs0)) {cs : List TC} {cs' : List Sc} (hc : CRs P a.h Z J cs cs') :
    StR P J0 Z0 H0 h0 J Z { s with lo := s.lo.set k (some cs) } { a with lo := a.lo.set k (some cs') } := by
  refine ⟨q.tm, q.mt, fun i c hk => ?_, fun i c hk => ?_, q.hp, q.kp, q.n0, q.j0⟩
  · by_cases e : k = i
    · subst e
      simp only [Tr.get_set_self] at hk
      obtain ⟨y0, hy, hk⟩ := oM hk
      simp at hk; subst hk
      obtain ⟨y1, hy1⟩ := q.lt k y0 hy
      exact ⟨cs', by simp [Tr.get_set_self, hy1], hc⟩
    · simp only [Tr.get_set_ne _ e] at hk
      obtain ⟨c', h1, h2⟩ := q.lo i c hk
      exact ⟨c', by simp only [Tr.get_set_ne _ e]; exact h1, h2⟩
  · by_cases e : k = i
    · subst e
      simp only [Tr.get_set_self] at hk
      obtain ⟨y0, hy, hk⟩ := oM hk
      obtain ⟨y1, hy1⟩ := q.lt k y0 hy
      exact ⟨some cs', by simp [Tr.get_set_self, hy1]⟩
    · simp only [Tr.get_set_ne _ e] at hk
      obtain ⟨y1, hy1⟩ := q.lt i c hk
      exact ⟨y1, by simp only [Tr.get_set_ne _ e]; exact hy1⟩
theorem wm {v : Value} {c : TC} (hc : TM.ofConst v = some c) : ∃ x, AM.ofConst v = some x ∧ CR P h Z J c x := by
  unfold TM.ofConst at hc
  split at hc <;> first | (cases hc; exact ⟨_, rfl, by simp [CR]⟩) | cases hc
theorem xP : ∀ {v : List Value} {c : List TC}, TM.ofConsts v = some c → ∃ x, AM.ofConsts v = some x ∧ CRs P h Z J c x
  | [], c, hc => by simp [TM.ofConsts] at hc; subst hc; exact ⟨[], rfl, trivial⟩
  | v :: vs, c, hc => by
    simp only [TM.ofConsts, Option.bind_eq_some_iff] at hc
    obtain ⟨y, hy, ys, hys, hc⟩ := hc
    cases hc
    obtain ⟨x, h1, h2⟩ := wm (P := P) (h := h) (Z := Z) (J := J) hy
    obtain ⟨xs, h3, h4⟩ := xP hys
    exact ⟨x :: xs, by simp [AM.ofConsts, h1, h3], h2, h4⟩
theorem zX {t : TypeId} {z : List TC} (hz : TM.zeroCells P t = some z) : ∃ x, AM.zeroCells P t = some x ∧ CRs P h Z J z x := by
  simp only [TM.zeroCells, Option.bind_eq_some_iff] at hz
  obtain ⟨i, hi, zv, hzv, hz⟩ := hz
  obtain ⟨x, h1, h2⟩ := xP (P := P) (h := h) (Z := Z) (J := J) hz
  exact ⟨x, by simp [AM.zeroCells, hi, hzv, h1], h2⟩
theorem zx (q : StR P J0 Z0 H0 h0 J Z s a) {x : Operand} {v : TV} (hv : TM.evA s x = some v) : ∃ y, AM.evA a x = some y ∧ SR P a.h Z J v y := by
  cases x with
  | tmp t => exact q.tm t v hv
  | const c =>
    simp only [TM.evA, Option.bind_eq_some_iff] at hv
    obtain ⟨y, hy, hv⟩ := hv
    cases hv
    obtain ⟨x, h1, h2⟩ := wm (P := P) (h := a.h) (Z := Z) (J := J) hy
    exact ⟨.v (.sc x), by simp [AM.evA, h1], _, rfl, x, rfl, h2⟩
  | global g => simp [TM.evA] at hv
  | func f => simp only [TM.evA] at hv; cases hv; exact ⟨_, rfl, _, rfl, _, rfl, [], rfl, trivial⟩
theorem zz (q : StR P J0 Z0 H0 h0 J Z s a) {x : Operand} {v : TA} (hv : TM.evV s x = some v) : ∃ y, AM.evV a x = some y ∧ AR P a.h Z J v y := by
  simp only [TM.evV, Option.bind_eq_some_iff] at hv
  obtain ⟨w, h1, h2⟩ := hv
  obtain ⟨y, h3, h4⟩ := zx q h1
  cases w <;> simp [TV.val] at h2
  subst h2
  obtain ⟨z, rfl, h5⟩ := h4
  exact ⟨z, by simp [AM.evV, h3, AM.SV.val], h5⟩
theorem yA (q : StR P J0 Z0 H0 h0 J Z s a) : ∀ {xs : List Operand} {vs : List TA}, TM.evVs s xs = some vs → ∃ ys, AM.evVs a xs = some ys ∧ ARs P a.h Z J vs ys
  | [], vs, hv => by simp [TM.evVs] at hv; subst hv; exact ⟨[], rfl, trivial⟩
  | x :: xs, vs, hv => by
    simp only [TM.evVs, Option.bind_eq_some_iff] at hv
    obtain ⟨v, h1, vs', h2, hv⟩ := hv
    cases hv
    obtain ⟨y, h3, h4⟩ := zz q h1
    obtain ⟨ys, h5, h6⟩ := yA q h2
    exact ⟨y :: ys, by simp [AM.evVs, h3, h5], h4, h6⟩
theorem xB (q : StR P J0 Z0 H0 h0 J Z s a) : ∀ {xs : List (Nat × Operand)} {vs : List (Nat × TA)}, TM.evParts s xs = some vs → ∃ ys, AM.evParts a xs = some ys ∧ vs.map Prod.fst = ys.map Prod.fst ∧ ARs P a.h Z J (vs.map Prod.snd) (ys.map Prod.snd)
  | [], vs, hv => by simp [TM.evParts] at hv; subst hv; exact ⟨[], rfl, rfl, trivial⟩
  | (i, x) :: xs, vs, hv => by
    simp only [TM.evParts, Option.bind_eq_some_iff] at hv
    obtain ⟨v, h1, vs', h2, hv⟩ := hv
    cases hv
    obtain ⟨y, h3, h4⟩ := zz q h1
    obtain ⟨ys, h5, h6, h7⟩ := xB q h2
    exact ⟨(i, y) :: ys, by simp [AM.evParts, h3, h5], by simp [h6], h4, h7⟩
theorem AR.sc {c : TC} {v : AV} (q : AR P h Z J (.sc c) v) : ∃ x, v = .sc x ∧ CR P h Z J c x := q
theorem AR.agg {c : List TC} {v : AV} (q : AR P h Z J (.agg c) v) : ∃ x, v = .agg x ∧ CRs P h Z J c x := q
theorem Wa {l : Leaf} {v : TC} {c : TC → Option R} {x : Sc} (hx : TM.asLeaf l v c = some r) (hc : CR P h Z J v x) : c v = some r ∧ ∀ {S : Type} (d : Sc → Option S), AM.asLeaf l x d = d x := by
  cases l with
  | int k => simp only [TM.asLeaf] at hx; obtain ⟨n, rfl, h2⟩ := TM.asI_some.1 hx; simp only [CR] at hc; subst hc; exact ⟨h2, fun d => by simp [AM.asLeaf, AM.asI]⟩
  | bool => simp only [TM.asLeaf] at hx; obtain ⟨n, rfl, h2⟩ := TM.asB_some.1 hx; simp only [CR] at hc; subst hc; exact ⟨h2, fun d => by simp [AM.asLeaf, AM.asB]⟩
  | any => exact ⟨hx, fun d => rfl⟩
theorem ZX : ∀ {ls : List Leaf} {l : List TC} {c : List TC → Option R} {x : List Sc}, TM.asLeaves ls l c = some r → CRs P h Z J l x → c l = some r ∧ ∀ {S : Type} (d : List Sc → Option S), AM.asLeaves ls x d = d x
  | [], l, c, x, hx, hc => by
    replace hx := TM.asN_some.1 hx
    obtain ⟨rfl, hx⟩ := hx
    cases x with
    | nil => exact ⟨hx, fun d => rfl⟩
    | cons _ _ => simp [CRs] at hc
  | f :: fs, l, c, x, hx, hc => by
    simp only [TM.asLeaves] at hx
    replace hx := TM.asC_some.1 hx
    obtain ⟨y, ys, rfl, hx⟩ := hx
    cases x with
    | nil => simp [CRs] at hc
    | cons z zs =>
      simp only [CRs] at hc
      obtain ⟨h1, h2⟩ := Wa (c := fun y => TM.asLeaves fs ys fun ys => c (y :: ys)) hx hc.1
      obtain ⟨h3, h4⟩ := ZX (c := fun ys => c (y :: ys)) h1 hc.2
      exact ⟨h3, fun d => by simp only [AM.asLeaves, AM.asC, h2, h4]⟩
theorem Uv {t : TypeId} {v : TA} {c : TA → Option R} {x : AV} (hx : TM.typed1 P t v c = some r) (hc : AR P h Z J v x) : c v = some r ∧ ∀ {S : Type} (d : AV → Option S), AM.typed1 P t x d = d x := by
  unfold TM.typed1 at hx
  rcases cond_some.1 hx with ⟨hg, hx⟩ | ⟨hg, hx⟩
  · obtain ⟨l, rfl, hx⟩ := TM.asAgg_some.1 hx
    obtain ⟨y, rfl, hc⟩ := hc
    obtain ⟨h1, h2⟩ := ZX (c := fun ys => c (.agg ys)) hx hc
    exact ⟨h1, fun d => by simp only [AM.typed1, hg, cond_true, AM.asAgg, h2]⟩
  · obtain ⟨l, rfl, hx⟩ := TM.asSc_some.1 hx
    obtain ⟨y, rfl, hc⟩ := hc
    obtain ⟨h1, h2⟩ := Wa (c := fun ys => c (.sc ys)) hx hc
    exact ⟨h1, fun d => by simp only [AM.typed1, hg, cond_false, AM.asSc, h2]⟩
theorem Va : ∀ {ts : List TypeId} {l : List TA} {c : List TA → Option R} {x : List AV}, TM.typedAll P ts l c = some r → ARs P h Z J l x → c l = some r ∧ ∀ {S : Type} (d : List AV → Option S), AM.typedAll P ts x d = d x
  | [], l, c, x, hx, hc => by
    replace hx := TM.asN_some.1 hx
    obtain ⟨rfl, hx⟩ := hx
    cases x with
    | nil => exact ⟨hx, fun d => rfl⟩
    | cons _ _ => simp [ARs] at hc
  | f :: fs, l, c, x, hx, hc => by
    simp only [TM.typedAll] at hx
    replace hx := TM.asC_some.1 hx
    obtain ⟨y, ys, rfl, hx⟩ := hx
    cases x with
    | nil => simp [ARs] at hc
    | cons z zs =>
      simp only [ARs] at hc
      obtain ⟨h1, h2⟩ := Uv (c := fun y => TM.typedAll P fs ys fun ys => c (y :: ys)) hx hc.1
      obtain ⟨h3, h4⟩ := Va (c := fun ys => c (y :: ys)) h1 hc.2
      exact ⟨h3, fun d => by simp only [AM.typedAll, AM.asC, h2, h4]⟩
theorem Zr {t : TypeId} {l : List TA} {c : TV → Option R} {x : List AV} (hx : TM.typed P t l c = some r) (hc : ARs P h Z J l x) : ∃ v y, c v = some r ∧ SR P h Z J v y ∧ ∀ {S : Type} (d : AM.SV → Option S), AM.typed P t x d = d y := by
  unfold TM.typed at hx
  split at hx
  · rename_i ts hu
    obtain ⟨h1, h2⟩ := Va (c := fun ys => guardB (!(Nat.beq ys.length 1)) (c (.t ys))) hx hc
    obtain ⟨hg, h1⟩ := gB.1 h1
    refine ⟨.t l, .t x, h1, ⟨x, rfl, hc⟩, fun d => ?_⟩
    simp only [AM.typed, hu, h2]
    rw [← hc.length, hg]; rfl
  · rename_i hu
    replace hx := TM.asC_some.1 hx
    obtain ⟨y, ys, rfl, hx⟩ := hx
    obtain ⟨rfl, hx⟩ := TM.asN_some.1 hx
    match x, hc with
    | [z], hc =>
      simp only [ARs] at hc
      obtain ⟨h1, h2⟩ := Uv (c := fun y => c (.v y)) hx hc.1
      refine ⟨.v y, .v z, h1, ⟨z, rfl, hc.1⟩, fun d => ?_⟩
      unfold AM.typed
      split
      · rename_i ts hu2; exact absurd hu2 (hu ts)
      · simp only [AM.asC, AM.asN, h2]
theorem QC {α : Type} {l : List α} {off : Nat} (h : off + 1 ≤ l.length) : (l.drop off).take 1 = [l[off]] := by
  rw [List.drop_eq_getElem_cons (by omega), List.take_succ_cons, List.take_zero]
theorem YT (q : StR P J0 Z0 H0 h0 J Z s a) {v : TV} {x : AM.SV} {n : Nat} {c : List TC → Option R} (hx : TM.loadAt s v n c = some r) (hv : SR P a.h Z J v x) :
    ∃ l l', c l = some r ∧ CRs P a.h Z J l l' ∧ l'.length = n ∧ ∀ {S : Type} (d : List Sc → Option S), AM.loadAt a x n d = d l' := by
  unfold TM.loadAt at hx
  split at hx
  · rename_i k off
    replace hx := oB hx
    obtain ⟨b, h1, hx1⟩ := hx
    replace hx1 := oB hx1
    obtain ⟨cs, rfl, hx2⟩ := hx1
    replace hx2 := xu hx2
    obtain ⟨hle, hx⟩ := hx2
    obtain ⟨cs', h2, h3⟩ := q.lo k cs h1
    simp only [SR] at hv; subst hv
    have hl := h3.length
    refine ⟨_, _, hx, (h3.drop off).take n, by simp; omega, fun d => ?_⟩
    simp only [AM.loadAt, h2, Option.bind_some, AM.cutK]
    rw [decide_eq_true (by omega)]; rfl
  · rename_i id off
    obtain ⟨y, rfl, z, rfl, je, hj, hjv, rfl⟩ := hv
    split at hx
    · rename_i e cs ho
      obtain ⟨hle, hx⟩ := xu hx
      obtain ⟨_, cs', h1, h2⟩ := q.hp.obj id _ je (zl ho rfl) hj
      have hl := h2.length
      refine ⟨_, _, hx, (h2.drop off).take n, by simp; omega, fun d => ?_⟩
      simp only [AM.loadAt, AM.asP, AM.ldNK, h1, Option.bind_some, yg, AM.cutK]
      rw [decide_eq_true (by omega)]; rfl
    · rename_i e cs ho
      obtain ⟨hle, hx⟩ := xu hx
      obtain ⟨_, cs', h1, h2⟩ := q.hp.obj id _ je (zl ho rfl) hj
      have hl := h2.length
      refine ⟨_, _, hx, (h2.drop off).take n, by simp; omega, fun d => ?_⟩
      simp only [AM.loadAt, AM.asP, AM.ldNK, h1, Option.bind_some, yg, AM.cutK]
      rw [decide_eq_true (by omega)]; rfl
    · cases hx
  · rename_i t xs i off
    obtain ⟨id, o, ob, cs, rfl, h1, h2, h3, h4, h5, h6⟩ := hv
    obtain ⟨hle, hx⟩ := xu hx
    have hz := fun x cs (r : DR P a.h Z t x cs) => r.length
    have hd := h6.get hz h5
    have hxi : xs.getD i t.dflt = xs[i] := by simp [List.getD_eq_getElem?_getD, h5]
    rw [hxi] at hle hx
    have hcl : (t.cells xs[i]).length = t.size := by have := (hd.cells (J := J)).length; rw [this]; exact hd.length
    have hlt : i * t.size + t.size ≤ xs.length * t.size := by have := Nat.mul_le_mul_right t.size (show i + 1 ≤ xs.length by omega); rw [Nat.succ_mul] at this; exact this
    refine ⟨_, _, hx, ((hd.cells).drop off).take n, by have := hd.length; simp at this ⊢; omega, fun d => ?_⟩
    simp only [AM.loadAt, AM.asP, AM.ldNK, h2, Option.bind_some, h3, AM.cutK]
    rw [decide_eq_true (by omega)]
    simp only [guardB, cond_true]
    congr 1
    apply List.ext_getElem?
    intro j
    simp only [List.getElem?_take, List.getElem?_drop]
    by_cases hj : j < n
    · have a1 : off + j < t.size := by omega
      have a2 : i * t.size + (off + j) < xs.length * t.size := by omega
      simp only [hj, a1, a2, if_true]
      congr 1; omega
    · simp [hj]
  · rename_i id i off
    split at hx
    · rename_i e t xs ho
      obtain ⟨hg, hx⟩ := gB.1 hx
      have hi := of_decide_eq_true hg
      obtain ⟨hle, hx⟩ := xu hx
      obtain ⟨je, hj, ra⟩ := q.hp.row ho
      obtain ⟨je2, hj2, hv2, rfl⟩ := hv
      rw [hj] at hj2; cases hj2
      rcases ra.at' with ⟨_, rfl⟩ | ⟨_, cs, h1, h2, h3⟩
      · simp at hi
      · have hz := fun x cs (r : DR P a.h Z t x cs) => r.length
        have hd := h3.get hz hi
        have hxi : xs.getD i t.dflt = xs[i] := by simp [List.getD_eq_getElem?_getD, hi]
        rw [hxi] at hle hx
        have hcl : (t.cells xs[i]).length = t.size := by have := (hd.cells (J := J)).length; rw [this]; exact hd.length
        have hlt : i * t.size + t.size ≤ xs.length * t.size := by have := Nat.mul_le_mul_right t.size (show i + 1 ≤ xs.length by omega); rw [Nat.succ_mul] at this; exact this
        refine ⟨_, _, hx, ((hd.cells).drop off).take n, by have := hd.length; simp at this ⊢; omega, fun d => ?_⟩
        simp only [AM.loadAt, AM.asP, AM.ldNK, h1, Option.bind_some, yg, AM.cutK]
        rw [ra.z, decide_eq_true (by omega)]
        simp only [guardB, cond_true]
        congr 1
        apply List.ext_getElem?
        intro j
        simp only [List.getElem?_take, List.getElem?_drop]
        by_cases hj : j < n
        · have a1 : off + j < t.size := by omega
          simp only [hj, a1, if_true]
          congr 1; omega
        · simp [hj]
    · cases hx
  · cases hx
theorem load1_of {x : AM.SV} {y : Sc} (hx : AM.loadAt a x 1 some = some [y]) {S : Type} (d : Sc → Option S) : AM.load1 a x d = d y := by
  have key : ∀ {cs : List Sc} {off : Nat}, AM.cutK cs off 1 some = some [y] → cs[off]? = some y := by
    intro cs off h1
    obtain ⟨h2, h3⟩ := gB.1 h1
    have h2 := of_decide_eq_true h2
    rw [QC h2] at h3
    cases h3
    exact List.getElem?_eq_getElem (by omega)
  unfold AM.loadAt at hx
  split at hx
  · obtain ⟨b, h1, hx⟩ := oB hx
    obtain ⟨cs, rfl, hx⟩ := oB hx
    simp only [AM.load1, h1, Option.bind_some, key hx]
  · replace hx := AM.asP_some.1 hx
    obtain ⟨id, off, rfl, hx⟩ := hx
    simp only [AM.ldNK, Option.bind_eq_some_iff] at hx
    obtain ⟨o, h1, cs, h2, hx⟩ := hx
    simp only [AM.load1, AM.asP, AM.ld1, h1, h2, Option.bind_some, key hx]
  · cases hx
theorem Qi (q : StR P J0 Z0 H0 h0 J Z s a) {v : TV} {x : AM.SV} {c : TC → Option R} (hx : TM.load1 s v c = some r) (hv : SR P a.h Z J v x) :
    ∃ l l', c l = some r ∧ CR P a.h Z J l l' ∧ ∀ {S : Type} (d : Sc → Option S), AM.load1 a x d = d l' := by
  obtain ⟨l, l', h1, h2, h3, h4⟩ := YT q hx hv
  obtain ⟨y, ys, rfl, h1⟩ := TM.asC_some.1 h1
  obtain ⟨rfl, h1⟩ := TM.asN_some.1 h1
  match l', h2 with
  | [z], h2 =>
    simp only [CRs] at h2
    exact ⟨y, z, h1, h2.1, fun d => load1_of (h4 some) d⟩
theorem QI {α : Type} {cs v : List α} {o p z : Nat} (h1 : p + v.length ≤ z) (h2 : o + z ≤ cs.length) : AM.splice cs o (AM.splice ((cs.drop o).take z) p v) = AM.splice cs (o + p) v := by
  have l1 : ((cs.drop o).take z).length = z := by simp; omega
  apply List.ext_getElem?
  intro j
  have l2 : (AM.splice ((cs.drop o).take z) p v).length = z := by rw [yZ (by rw [l1]; exact h1), l1]
  have g1 := xq (c := cs) (v := AM.splice ((cs.drop o).take z) p v) (off := o) (by rw [l2]; exact h2) j
  have g2 := xq (c := cs) (v := v) (off := o + p) (by omega) j
  rw [g1, g2, l2]
  by_cases a1 : j < o
  · rw [if_pos a1, if_pos (by omega)]
  · rw [if_neg a1]
    by_cases a2 : j < o + z
    · have g3 := xq (c := (cs.drop o).take z) (v := v) (off := p) (by rw [l1]; exact h1) (j - o)
      rw [if_pos a2, g3]
      by_cases a3 : j - o < p
      · rw [if_pos a3, if_pos (by omega), List.getElem?_take, if_pos (by omega), List.getElem?_drop]; congr 1; omega
      · rw [if_neg a3]
        by_cases a4 : j - o < p + v.length
        · rw [if_pos a4, if_neg (by omega), if_pos (by omega)]; congr 1; omega
        · rw [if_neg a4, if_neg (by omega), if_neg (by omega), List.getElem?_take, if_pos (by omega), List.getElem?_drop]; congr 1; omega
    · rw [if_neg a2, if_neg (by omega), if_neg (by omega)]
theorem Vz {α : Type} {cs v : List α} {o p : Nat} (h : o + p + v.length ≤ cs.length) : (AM.splice cs (o + p) v).drop o = AM.splice (cs.drop o) p v := by
  apply List.ext_getElem?
  intro j
  rw [List.getElem?_drop, xq h, xq (by simp; omega), List.getElem?_drop]
  by_cases a1 : j < p
  · rw [if_pos (by omega), if_pos a1]
  · rw [if_neg (by omega), if_neg a1]
    by_cases a2 : j < p + v.length
    · rw [if_pos (by omega), if_pos a2]; congr 1; omega
    · rw [if_neg (by omega), if_neg a2]
theorem storeAt_rel (q : StR P J0 Z0 H0 h0 J Z s a) {v : TV} {x : AM.SV} {l : List TC} {l' : List Sc} {c : TS → Option R} (hx : TM.storeAt P s v l c = some r) (hv : SR P a.h Z J v x) (hl : CRs P a.h Z J l l') :
    ∃ s' a' J' Z', c s' = some r ∧ StR P J0 Z0 H0 h0 J' Z' s' a' ∧ ∀ {S : Type} (d : AM.St → Option S), AM.storeAt a x l' d = d a' := by
  have hll := hl.length
  unfold TM.storeAt at hx
  split at hx
  · rename_i k off
    replace hx := oB hx
    obtain ⟨b, h1, hx1⟩ := hx
    replace hx1 := oB hx1
    obtain ⟨cs, rfl, hx2⟩ := hx1
    replace hx2 := Yf hx2
    obtain ⟨hle, hx⟩ := hx2
    obtain ⟨cs', h2, h3⟩ := q.lo k cs h1
    simp only [SR] at hv; subst hv
    have hc := h3.length
    rw [Tr.setT_eq] at hx
    refine ⟨_, _, J, Z, hx, q.setLocal h1 (h3.splice off hl), fun d => ?_⟩
    simp only [AM.storeAt, h2, Option.bind_some, AM.putK]
    rw [decide_eq_true (by omega)]
    simp only [guardB, cond_true, Tr.setT_eq]
  · rename_i id off
    obtain ⟨y, rfl, z, rfl, je, hj, hjv, rfl⟩ := hv
    split at hx
    · rename_i e cs ho
      obtain ⟨hle, hx⟩ := Yf hx
      have hi := zl ho rfl
      obtain ⟨_, cs', h1, h2⟩ := q.hp.obj id _ je hi hj
      have hc := h2.length
      have st := xY (ao := .box e (AM.splice cs' off l')) q.hp hi rfl hj hjv (o' := .box e (AM.splice cs off l)) ⟨hjv, _, by rw [List.getElem?_set_self (List.getElem?_eq_some_iff.1 h1).1], by
        have x : Ext a.h Z (a.h.set je.id (.box e (AM.splice cs' off l'))) Z := ⟨fun _ h => h, fun b hb => List.getElem?_set_ne fun he => q.hp.notOwn hb ⟨id, _, je, hi, rfl, hj, hjv, he⟩⟩
        exact CRs.mono x (List.prefix_refl _) _ _ (h2.splice off hl)⟩
      refine ⟨_, _, J, Z, hx, q.mem st, fun d => ?_⟩
      simp only [AM.storeAt, AM.asP, AM.stK, h1, Option.bind_some, AM.putK]
      rw [decide_eq_true (by omega)]; rfl
    · rename_i e cs ho
      obtain ⟨hle, hx⟩ := Yf hx
      have hi := zl ho rfl
      obtain ⟨_, cs', h1, h2⟩ := q.hp.obj id _ je hi hj
      have hc := h2.length
      have st := xY (ao := .row true e (AM.splice cs' off l')) q.hp hi rfl hj hjv (o' := .crow e (AM.splice cs off l)) ⟨hjv, _, by rw [List.getElem?_set_self (List.getElem?_eq_some_iff.1 h1).1], by
        have x : Ext a.h Z (a.h.set je.id (.row true e (AM.splice cs' off l'))) Z := ⟨fun _ h => h, fun b hb => List.getElem?_set_ne fun he => q.hp.notOwn hb ⟨id, _, je, hi, rfl, hj, hjv, he⟩⟩
        exact CRs.mono x (List.prefix_refl _) _ _ (h2.splice off hl)⟩
      refine ⟨_, _, J, Z, hx, q.mem st, fun d => ?_⟩
      simp only [AM.storeAt, AM.asP, AM.stK, h1, Option.bind_some, AM.putK]
      rw [decide_eq_true (by omega)]; rfl
    · cases hx
  · rename_i id i off
    obtain ⟨v2, H2, Z2, m, hl2, hx⟩ := WO hx q.hp hl
    split at hx
    · rename_i e t xs ho
      obtain ⟨hg, hx⟩ := gB.1 hx
      have hi := of_decide_eq_true hg
      obtain ⟨hle, hx⟩ := Yf hx
      have q2 := q.mem (Mv.step (hr := q.hp) m)
      obtain ⟨je, hj, ra⟩ := m.hr.row ho
      have hgo := zl ho rfl
      obtain ⟨je2, hj2, hv2, rfl⟩ := hv
      rw [hj] at hj2; cases hj2
      rcases ra.at' with ⟨_, rfl⟩ | ⟨_, cs, h1, h2, h3⟩
      · simp at hi
      · have hz := fun x cs (r : DR P a.h Z2 t x cs) => r.length
        have hd := h3.get hz hi
        have hxi : xs.getD i t.dflt = xs[i] := by simp [List.getD_eq_getElem?_getD, hi]
        rw [hxi] at hle hx
        have hcl : (t.cells xs[i]).length = t.size := by have := (hd.cells (J := J)).length; rw [this]; exact hd.length
        have hlt : i * t.size + t.size ≤ xs.length * t.size := by have := Nat.mul_le_mul_right t.size (show i + 1 ≤ xs.length by omega); rw [Nat.succ_mul] at this; exact this
        have hl2l := hl2.length
        have hcc := (hd.cells (J := J)).splice off hl2
        obtain ⟨y, hy, hx⟩ := mk1_some hx hcc
        have hseg := h3.set hz hi hy
        have e1 := QI (cs := cs.drop je.off) (v := l') (o := i * t.size) (p := off) (z := t.size) (by omega) (by simp; omega)
        rw [e1] at hseg
        have e2 := Vz (cs := cs) (v := l') (o := je.off) (p := i * t.size + off) (by omega)
        rw [← e2] at hseg
        have x2 : Ext a.h Z2 (a.h.set je.id (.row true e (AM.splice cs (je.off + (i * t.size + off)) l'))) Z2 := ⟨fun _ h => h, fun b hb => List.getElem?_set_ne fun he => m.hr.notOwn hb ⟨id, _, je, hgo, rfl, hj, hv2, he⟩⟩
        have st := xY (ao := .row true e (AM.splice cs (je.off + (i * t.size + off)) l')) m.hr hgo rfl hj hv2 (o' := .row e t (xs.set i y)) ⟨ra.z, by simp [ra.n], ra.sz, ra.inf, .inr ⟨hv2, _, by rw [List.getElem?_set_self (List.getElem?_eq_some_iff.1 h1).1], by rw [yZ (by omega), h2]; simp, hseg.mono fun _ _ => DR.mono x2 t⟩⟩
        refine ⟨_, _, J, Z2, hx, q2.mem st, fun d => ?_⟩
        simp only [AM.storeAt, AM.asP, AM.stK, h1, Option.bind_some, AM.putK]
        rw [ra.z, show je.off + i * t.size + off = je.off + (i * t.size + off) by omega, decide_eq_true (by omega)]; rfl
    · cases hx
  · cases hx
variable {P : Program} {J0 J J' : List JE} {Z0 Z Z' : Nat → Prop} {H0 H H' : TH} {h0 h h' : AH} {s : TS} {a : AM.St} {R : Type} {r : R}
theorem Yu {e : TypeId} {id off len : Nat} {o : AO} (h1 : h[id]? = some o) (h2 : rowE e o) : AM.rowOk h e (.sl id off len) = true := by
  unfold AM.rowOk
  simp only [h1]
  cases o with
  | row own e' cs => cases own <;> simp_all [rowE]
  | box e' cs => rfl
  | dead => simp [rowE] at h2
  | loop l => simp [rowE] at h2
theorem Wk {e : TypeId} {z : Nat} {α : Type} {Q : α → List Sc → Prop} {xs : List α} {x : Sc} (hx : SlR P h Z e z Q xs x) :
    AM.isSl x = true ∧ AM.slLen x = xs.length ∧ AM.rowOk h e x = true ∧ (xs = [] ∨ z = P.cellsOf e) ∧ ∃ l, Seg Q xs l ∧ (xs ≠ [] → ∃ id off o cs, x = .sl id off xs.length ∧ h[id]? = some o ∧ yg o = some cs ∧ off + xs.length * z ≤ cs.length ∧ l = (cs.drop off).take (xs.length * z)) := by
  rcases hx with ⟨rfl, b, rfl⟩ | ⟨id, off, o, cs, rfl, h1, h2, h3, h4, h5, h6, h7⟩
  · exact ⟨rfl, rfl, rfl, .inl rfl, [], rfl, fun h => absurd rfl h⟩
  · exact ⟨rfl, rfl, Yu h2 h3, .inr h5, _, h7, fun _ => ⟨id, off, o, cs, rfl, h2, h4, h6, rfl⟩⟩
theorem slr_first {e : TypeId} {t : Ty} {xs : List t.T} {x : Sc} (hx : SlR P a.h Z' e t.size (DR P a.h Z t) xs x) (n : Nat) (hn : n ≤ xs.length) :
    ∃ l, Seg (DR P a.h Z t) (xs.take n) l ∧ ∀ {S : Type} (d : List Sc → Option S), AM.firstA a (.v (.sc x)) n t.size d = d l := by
  have hz := fun x cs (r : DR P a.h Z t x cs) => r.length
  obtain ⟨h1, h2, h3, h4, l, h5, h6⟩ := Wk hx
  cases n with
  | zero => exact ⟨[], by simp [Seg], fun d => by simp [AM.firstA, h1, guardB]⟩
  | succ n =>
    obtain ⟨id, off, o, cs, rfl, g1, g2, g3, rfl⟩ := h6 (by intro h; subst h; simp at hn)
    obtain ⟨k1, _⟩ := Seg.split hz (n + 1) h5
    refine ⟨_, k1, fun d => ?_⟩
    have hle : (n + 1) * t.size ≤ xs.length * t.size := Nat.mul_le_mul_right _ hn
    simp only [AM.firstA, AM.asS, AM.ldNK, g1, g2, Option.bind_some, AM.cutK]
    rw [decide_eq_true (by omega)]
    simp only [guardB, cond_true, List.take_take, Nat.min_eq_left hle]
theorem VM {v : TC} {c : Nat → Option R} {x : Sc} (hx : TM.lenC H v c = some r) (hr : HR P J Z H h) (hv : CR P h Z J v x) : ∃ n, c n = some r ∧ AM.isSl x = true ∧ AM.slLen x = n := by
  unfold TM.lenC at hx
  split at hx
  · simp only [CR] at hv
    obtain ⟨h1, h2, _⟩ := Wk hv
    exact ⟨_, hx, h1, h2⟩
  · simp only [CR] at hv; obtain ⟨b, rfl⟩ := hv; exact ⟨0, hx, rfl, rfl⟩
  · split at hx
    · rename_i ho
      obtain ⟨je, hj, ra⟩ := hr.row ho
      obtain ⟨je2, hj2, hs⟩ := hv
      rw [hj] at hj2; cases hj2
      rcases hs with ⟨hv, b, rfl⟩ | ⟨hv, rfl⟩
      · rcases ra.at' with ⟨_, rfl⟩ | ⟨hv', _⟩
        · exact ⟨0, hx, rfl, rfl⟩
        · rw [hv] at hv'; cases hv'
      · exact ⟨_, hx, rfl, ra.n⟩
    · cases hx
  · obtain ⟨je, hj, hs⟩ := hv
    rcases hs with ⟨_, rfl, b, rfl⟩ | ⟨_, rfl⟩
    · exact ⟨_, hx, rfl, rfl⟩
    · exact ⟨_, hx, rfl, rfl⟩
  · obtain ⟨je, hj, _, rfl⟩ := hv
    exact ⟨_, hx, rfl, rfl⟩
  · cases hx
theorem Qz {e : TypeId} {t : Ty} {v : TC} {c : List t.T → Option Nat → Option R} {x : Sc} (hsz : t.size = P.cellsOf e) (hx : TM.elems H e t v c = some r) (hr : HR P J Z H h) (hv : CR P h Z J v x) :
    ∃ xs o Z', c xs o = some r ∧ (∀ i, Z i → Z' i) ∧ SlR P h Z' e t.size (DR P h Z t) xs x ∧ (∀ i, Z' i → Z i ∨ ∃ id je ob, id ∈ v.refs ∧ J[id]? = some je ∧ je.v = false ∧ i = je.id ∧ H[id]? = some ob ∧ ob.live = true) := by
  unfold TM.elems at hx
  split at hx
  · rename_i id
    split at hx
    · rename_i e' t' xs ho
      rcases wB hx with ⟨ys, he, hx1⟩ | ⟨he, hx1⟩
      · cases he
        obtain ⟨je, hj, ra⟩ := hr.row ho
        obtain ⟨je2, hj2, hs⟩ := hv
        rw [hj] at hj2; cases hj2
        cases hvv : je.v with
        | true => exact ⟨_, _, Z, hx1, fun _ h => h, ra.whole (fun h => by rw [hvv] at h; cases h) hs, fun _ h => .inl h⟩
        | false => exact ⟨_, _, WE Z je.id, hx1, fun _ h => .inl h, ra.whole (fun _ => .inr rfl) hs, fun i hi => hi.imp (fun h => h) fun hi => ⟨id, je, _, by simp [TC.refs], hj, hvv, hi, zl ho rfl, rfl⟩⟩
      · cases he
    · cases hx
  · rename_i id o n
    split at hx
    · rename_i e' t' xs ho
      rcases wB hx with ⟨ys, he, hx1⟩ | ⟨he, hx1⟩
      · cases he
        obtain ⟨hg, hx2⟩ := gB.1 hx1
        have hg := of_decide_eq_true hg
        obtain ⟨je, hj, ra⟩ := hr.row ho
        obtain ⟨je2, hj2, hs⟩ := hv
        rw [hj] at hj2; cases hj2
        have hs' : (je.v = true ∧ ∃ b, x = .nils b) ∨ (je.v = false ∧ x = .sl je.id (je.off + o * je.z) n) := by
          rcases hs with ⟨h1, _, h2⟩ | hs
          · exact .inl ⟨h1, h2⟩
          · exact .inr hs
        cases hvv : je.v with
        | true => exact ⟨_, _, Z, hx2, fun _ h => h, ra.cut (fun h => by rw [hvv] at h; cases h) hg hs', fun _ h => .inl h⟩
        | false => exact ⟨_, _, WE Z je.id, hx2, fun _ h => .inl h, ra.cut (fun _ => .inr rfl) hg hs', fun i hi => hi.imp (fun h => h) fun hi => ⟨id, je, _, by simp [TC.refs], hj, hvv, hi, zl ho rfl, rfl⟩⟩
      · cases he
    · cases hx
  · rename_i id o n
    split at hx
    · rename_i b cs ho
      obtain ⟨hle, hx1⟩ := xu hx
      obtain ⟨je, hj, hvv, rfl⟩ := hv
      obtain ⟨_, cs', h1, h2⟩ := hr.obj id _ je (zl ho rfl) hj
      obtain ⟨xs, hn, hseg, hx2⟩ := wZ n hx1 ((h2.drop o).take (n * t.size))
      have hl := h2.length
      exact ⟨_, _, WE Z je.id, hx2, fun _ h => .inl h, .inr ⟨je.id, o, _, cs', by rw [hn], .inr rfl, h1, trivial, rfl, hsz, by rw [hn]; omega, by rw [hn]; exact hseg⟩, fun i hi => hi.imp (fun h => h) fun hi => ⟨id, je, _, by simp [TC.refs], hj, hvv, hi, zl ho rfl, rfl⟩⟩
    · rename_i e' cs ho
      obtain ⟨he, hx1⟩ := gB.1 hx
      have he := zp he
      obtain ⟨hle, hx2⟩ := xu hx1
      obtain ⟨je, hj, hvv, rfl⟩ := hv
      obtain ⟨_, cs', h1, h2⟩ := hr.obj id _ je (zl ho rfl) hj
      obtain ⟨xs, hn, hseg, hx3⟩ := wZ n hx2 ((h2.drop o).take (n * t.size))
      have hl := h2.length
      exact ⟨_, _, WE Z je.id, hx3, fun _ h => .inl h, .inr ⟨je.id, o, _, cs', by rw [hn], .inr rfl, h1, he, rfl, hsz, by rw [hn]; omega, by rw [hn]; exact hseg⟩, fun i hi => hi.imp (fun h => h) fun hi => ⟨id, je, _, by simp [TC.refs], hj, hvv, hi, zl ho rfl, rfl⟩⟩
    · cases hx
  · rcases wB hx with ⟨ys, rfl, hx1⟩ | ⟨rfl, hx1⟩
    · exact ⟨ys, _, Z, hx1, fun _ h => h, hv, fun _ h => .inl h⟩
    · exact ⟨[], _, Z, hx1, fun _ h => h, .inl ⟨rfl, hv⟩, fun _ h => .inl h⟩
theorem Wc (q : StR P J0 Z0 H0 h0 J Z s a) {x : Option Operand} {d : Nat} {c : Nat → Option R} (hx : TM.boundI s x d c = some r) : ∃ n, c n = some r ∧ (x = none → n = d) ∧ ∀ {S : Type} (k : Nat → Option S), AM.boundI a x d k = k n := by
  cases x with
  | none => exact ⟨d, hx, fun _ => rfl, fun k => rfl⟩
  | some x =>
    simp only [TM.boundI] at hx
    obtain ⟨v, h1, hx⟩ := oB hx
    obtain ⟨y, h2, h3⟩ := zz q h1
    split at hx
    · rename_i k i
      obtain ⟨hg, hx⟩ := gB.1 hx
      obtain ⟨z, rfl, h4⟩ := h3
      simp only [CR] at h4; subst h4
      exact ⟨_, hx, (fun h => by cases h), fun k => by simp only [AM.boundI, h2, Option.bind_some, hg, guardB, cond_true]⟩
    · cases hx
theorem Za {i : TA} {y : AV} {n : Nat} {c : Nat → Option R} (hx : TM.idxI i n c = some r) (hi : AR P h Z J i y) : ∃ j, j < n ∧ c j = some r ∧ ∀ {S : Type} (k : Nat → Option S), AM.idxI y n k = k j := by
  unfold TM.idxI at hx
  split at hx
  · rename_i kk m
    obtain ⟨h1, hx⟩ := gB.1 hx
    obtain ⟨h2, hx⟩ := gB.1 hx
    obtain ⟨z, rfl, h4⟩ := hi
    simp only [CR] at h4; subst h4
    have h1' := of_decide_eq_true h1
    have h2' := of_decide_eq_true h2
    exact ⟨m.toNat, by omega, hx, fun k => by simp only [AM.idxI, h1, h2, Bool.and_self, guardB, cond_true]⟩
  · cases hx
theorem cutS_rel {e : TypeId} {whole : Bool} {v : TC} {l g n : Nat} {c : TC → Option R} {x : Sc} (hx : TM.cutS H e (P.cellsOf e) whole v l g c = some r) (hr : HR P J Z H h) (hv : CR P h Z J v x) (hn : AM.slLen x = n) (h1 : l ≤ g) (h2 : g ≤ n) (hw : whole = true → l = 0 ∧ g = n) :
    ∃ v', c v' = some r ∧ AM.rowOk h e x = true ∧ CR P h Z J v' (AM.subS x l g (P.cellsOf e)) := by
  unfold TM.cutS at hx
  split at hx
  · rename_i e' t xs
    obtain ⟨hg, hx1⟩ := gB.1 hx
    simp only [Bool.and_eq_true] at hg
    have he := zp hg.1
    have hz2 := zp hg.2
    subst he
    have hx := hx1
    simp only [CR] at hv
    obtain ⟨_, k2, k3, _⟩ := Wk hv
    rw [hn] at k2
    refine ⟨_, hx, k3, ?_⟩
    simp only [CR]
    rcases hv with ⟨rfl, b, rfl⟩ | ⟨id, off, o, cs, rfl, g1, g2, g3, g4, g5, g6, g7⟩
    · exact .inl ⟨by simp, b, rfl⟩
    · have hz := fun x cs (r : DR P h Z t x cs) => r.length
      have hl : ((xs.take g).drop l).length = g - l := by simp; omega
      have hm1 : l * t.size ≤ g * t.size := Nat.mul_le_mul_right _ h1
      have hm2 : g * t.size ≤ xs.length * t.size := Nat.mul_le_mul_right _ (by omega)
      have hm3 : (g - l) * t.size = g * t.size - l * t.size := Nat.sub_mul ..
      obtain ⟨a1, _⟩ := Seg.split hz g g7
      obtain ⟨_, a2⟩ := Seg.split hz l a1
      refine .inr ⟨id, off + l * t.size, o, cs, by simp only [AM.subS, hl, hz2], g1, g2, g3, g4, g5, by rw [hl]; omega, ?_⟩
      rw [hl, hm3]
      rw [List.take_take, Nat.min_eq_left hm2] at a2
      rw [← List.drop_drop, ← List.drop_take]
      exact a2
  · simp only [CR] at hv; obtain ⟨b, rfl⟩ := hv; exact ⟨_, hx, rfl, by simp [CR, AM.subS]⟩
  · rename_i id
    split at hx
    · rename_i e' t xs ho
      obtain ⟨he, hx1⟩ := gB.1 hx
      have he := zp he
      subst he
      have hx := hx1
      obtain ⟨je, hj, ra⟩ := hr.row ho
      obtain ⟨je2, hj2, hs⟩ := hv
      rw [hj] at hj2; cases hj2
      refine ⟨_, hx, ?_, ?_⟩
      · rcases hs with ⟨_, b, rfl⟩ | ⟨hv, rfl⟩
        · rfl
        · rcases ra.at' with ⟨hv', _⟩ | ⟨_, cs, g1, _⟩
          · rw [hv] at hv'; cases hv'
          · exact Yu g1 rfl
      · cases hwh : whole with
        | true =>
          obtain ⟨rfl, rfl⟩ := hw hwh
          simp only [cond_true, CR]
          refine ⟨je, hj, ?_⟩
          rcases hs with ⟨hv, b, rfl⟩ | ⟨hv, rfl⟩
          · exact .inl ⟨hv, b, rfl⟩
          · simp only [AM.slLen] at hn; subst hn; exact .inr ⟨hv, by simp [AM.subS]⟩
        | false =>
          simp only [cond_false, CR]
          refine ⟨je, hj, ?_⟩
          rcases hs with ⟨hv, b, rfl⟩ | ⟨hv, rfl⟩
          · simp only [AM.slLen] at hn; exact .inl ⟨hv, by omega, b, rfl⟩
          · exact .inr ⟨hv, by simp [AM.subS, ra.z, ra.sz]⟩
    · cases hx
  · rename_i id o n0
    split at hx
    · rename_i e' t xs ho
      obtain ⟨he, hx1⟩ := gB.1 hx
      have he := zp he
      subst he
      have hx := hx1
      obtain ⟨je, hj, ra⟩ := hr.row ho
      obtain ⟨je2, hj2, hs⟩ := hv
      rw [hj] at hj2; cases hj2
      refine ⟨_, hx, ?_, ?_⟩
      · rcases hs with ⟨_, _, b, rfl⟩ | ⟨hv, rfl⟩
        · rfl
        · rcases ra.at' with ⟨hv', _⟩ | ⟨_, cs, g1, _⟩
          · rw [hv] at hv'; cases hv'
          · exact Yu g1 rfl
      · simp only [CR]
        refine ⟨je, hj, ?_⟩
        rcases hs with ⟨hv, rfl, b, rfl⟩ | ⟨hv, rfl⟩
        · simp only [AM.slLen] at hn; exact .inl ⟨hv, by omega, b, rfl⟩
        · exact .inr ⟨hv, by simp [AM.subS, ra.z, ra.sz, Nat.add_mul, Nat.add_assoc]⟩
    · cases hx
  · rename_i id o n0
    split at hx
    · rename_i e' cs ho
      obtain ⟨he, hx1⟩ := gB.1 hx
      have he := zp he
      subst he
      have hx := hx1
      obtain ⟨je, hj, hvv, rfl⟩ := hv
      obtain ⟨_, cs', g1, _⟩ := hr.obj id _ je (zl ho rfl) hj
      exact ⟨_, hx, Yu g1 rfl, je, hj, hvv, rfl⟩
    · rename_i e' cs ho
      obtain ⟨je, hj, hvv, rfl⟩ := hv
      obtain ⟨_, cs', g1, _⟩ := hr.obj id _ je (zl ho rfl) hj
      exact ⟨_, hx, Yu g1 trivial, je, hj, hvv, rfl⟩
    · cases hx
  · cases hx
theorem UP (q : StR P J0 Z0 H0 h0 J Z s a) {e : TypeId} {v : TC} {lo hi mx : Option Operand} {c : TC → Option R} {x : Sc} (hx : TM.sliceS s e (P.cellsOf e) v lo hi mx c = some r) (hv : CR P a.h Z J v x) :
    ∃ v' y, c v' = some r ∧ CR P a.h Z J v' y ∧ ∀ {S : Type} (k : Sc → Option S), AM.sliceS a e (P.cellsOf e) x lo hi mx k = k y := by
  unfold TM.sliceS at hx
  obtain ⟨n, hx, hsl, hn⟩ := VM hx q.hp hv
  obtain ⟨l, hx, hl0, hl⟩ := Wc q hx
  obtain ⟨g, hx, hg0, hg⟩ := Wc q hx
  obtain ⟨m, hx, hm0, hm⟩ := Wc q hx
  obtain ⟨g1, hx⟩ := gB.1 hx
  obtain ⟨g2, hx⟩ := gB.1 hx
  obtain ⟨g3, hx⟩ := gB.1 hx
  obtain ⟨g4, hx⟩ := gB.1 hx
  have g2' := of_decide_eq_true g2
  have g3' := of_decide_eq_true g3
  have g4' := of_decide_eq_true g4
  obtain ⟨v', hx9, hok, hcr⟩ := cutS_rel hx q.hp hv hn g2' (by omega) (fun hw => by
    simp only [Bool.and_eq_true, Option.isNone_iff_eq_none] at hw
    exact ⟨hl0 hw.1, hg0 hw.2⟩)
  subst hn
  cases hz : AM.mx0 mx with
  | false =>
    rw [hz] at hx9
    refine ⟨v', _, hx9, hcr, fun k => ?_⟩
    simp only [AM.sliceS, hl, hg, hm, hok, g1, g2, g3, g4, hz, Bool.and_self, guardB, cond_true, cond_false]
  | true =>
    rw [hz] at hx9
    refine ⟨.nil, AM.emptied x, hx9, ?_, fun k => ?_⟩
    · cases x <;> exact ⟨_, rfl⟩
    · simp only [AM.sliceS, hl, hg, hm, hok, g1, g2, g3, g4, hz, Bool.and_self, guardB, cond_true]
theorem srcT_rel (q : StR P J0 Z0 H0 h0 J Z s a) {e : TypeId} {t : Ty} {v : TV} {c : List t.T → TH → Option R} {x : AM.SV} (hsz : t.size = P.cellsOf e) (hx : TM.srcT P s e t v c = some r) (hv : SR P a.h Z J v x) :
    ∃ xs H' Z', c xs H' = some r ∧ Mv P J Z s.h a.h Z' H' ∧ (∀ {S : Type} (k : Nat → Option S), AM.lenA x k = k xs.length) ∧
      ∀ n, n ≤ xs.length → ∃ l, Seg (DR P a.h Z' t) (xs.take n) l ∧ ∀ {S : Type} (d : List Sc → Option S), AM.firstA a x n t.size d = d l := by
  unfold TM.srcT at hx
  split at hx
  · rename_i k n
    replace hx := oB hx
    obtain ⟨b, h1, hx1⟩ := hx
    replace hx1 := oB hx1
    obtain ⟨cs, rfl, hx2⟩ := hx1
    replace hx2 := xu hx2
    obtain ⟨hle, hx⟩ := hx2
    obtain ⟨cs', h2, h3⟩ := q.lo k cs h1
    have hcl := h3.length
    obtain ⟨l', H', Z', m, h4, hx⟩ := WO hx q.hp ((h3.drop 0).take (n * t.size))
    obtain ⟨xs, hn, hseg, hx⟩ := wZ n hx h4
    simp only [SR] at hv; subst hv
    have hz := fun x cs (r : DR P a.h Z' t x cs) => r.length
    refine ⟨xs, H', Z', hx, m, fun k => by simp [AM.lenA, hn], fun i hi => ?_⟩
    obtain ⟨k1, _⟩ := Seg.split hz i hseg
    have hi2 : i * t.size ≤ n * t.size := Nat.mul_le_mul_right _ (by omega)
    refine ⟨_, k1, fun d => ?_⟩
    simp only [AM.firstA, h2, Option.bind_some, AM.cutK]
    rw [decide_eq_true (by omega)]
    simp only [guardB, cond_true, List.drop_zero, List.take_take, Nat.min_eq_left hi2]
  · rename_i v
    obtain ⟨y, rfl, w, rfl, hc⟩ := hv
    obtain ⟨xs, o, Z2, hx1, hz1, hs, hz2⟩ := Qz hsz hx q.hp hc
    obtain ⟨h1, h2, _⟩ := Wk hs
    exact ⟨xs, s.h, Z, hx1, Mv.refl q.hp, fun k => by simp [AM.lenA, h1, h2, guardB], fun n hn => slr_first hs n hn⟩
  · cases hx
variable {P : Program} {J0 J J' : List JE} {Z0 Z Z' : Nat → Prop} {H0 H H' : TH} {h0 h h' : AH} {s : TS} {a : AM.St} {R : Type} {r : R}
theorem Wl (hr : HR P J Z H h) {i : Nat} {o o' : TO} {je : JE} (hi : H[i]? = some o) (hl : o.live = true) (hj : J[i]? = some je) (ho : OR P h Z J je o') : Step P J Z H h J Z (H.set i o') h := by
  have own2 : ∀ b, OwnJ J (H.set i o') b → OwnJ J H b := by
    rintro b ⟨j, o2, j2, h1, h2, h3, h4, rfl⟩
    rcases yr h1 with ⟨rfl, _⟩ | ⟨_, h1⟩
    · rw [hj] at h3; cases h3; exact ⟨i, o, je, hi, hl, hj, h4, rfl⟩
    · exact ⟨j, o2, j2, h1, h2, h3, h4, rfl⟩
  have live : ∀ (j : Nat) o2, (H.set i o')[j]? = some o2 → o2.live = true → ∃ o3, H[j]? = some o3 ∧ o3.live = true := by
    intro j o2 h1 h2
    rcases yr h1 with ⟨rfl, _⟩ | ⟨_, h1⟩
    · exact ⟨o, hi, hl⟩
    · exact ⟨o2, h1, h2⟩
  refine ⟨⟨by simp [hr.len], fun j o2 j2 h1 h2 => ?_, fun j k o1 o2 j1 j2 h1 h2 l1 l2 k1 k2 v1 v2 e => ?_, fun j o2 j2 h1 h2 h3 h4 h5 => ?_, hr.zlt⟩,
    ⟨Nat.le_refl _, List.prefix_refl _, fun _ _ _ => rfl, fun id hw => .inl (own2 id hw), fun _ h => h, fun _ h => .inl h⟩⟩
  · rcases yr h1 with ⟨rfl, rfl⟩ | ⟨hne, h1⟩
    · rw [hj] at h2; cases h2; exact ho
    · exact hr.obj j o2 j2 h1 h2
  · obtain ⟨o3, g1, g2⟩ := live j o1 h1 l1
    obtain ⟨o4, g3, g4⟩ := live k o2 h2 l2
    exact hr.uniq j k o3 o4 j1 j2 g1 g3 g2 g4 k1 k2 v1 v2 e
  · obtain ⟨o3, g1, g2⟩ := live j o2 h1 h2
    exact hr.sep j o3 j2 g1 g2 h3 h4 h5
theorem Seg.splice {α : Type} {Q : α → List Sc → Prop} {z : Nat} (hz : ∀ x cs, Q x cs → cs.length = z) {xs ys : List α} {c l : List Sc} (o : Nat) (q : Seg Q xs c) (k : Seg Q ys l) : Seg Q (xs.take o ++ ys ++ xs.drop (o + ys.length)) (AM.splice c (o * z) l) := by
  obtain ⟨k1, _⟩ := Seg.split hz o q
  obtain ⟨_, k3⟩ := Seg.split hz (o + ys.length) q
  unfold AM.splice
  rw [k.length hz, ← Nat.add_mul]
  exact (k1.append k).append k3
theorem Qd (hr : HR P J Z H h) {id o : Nat} {e : TypeId} {t : Ty} {xs ys : List t.T} {l : List Sc} {je : JE} (ho : zn H id = .row e t xs) (hj : J[id]? = some je) (hs : Seg (DR P h Z t) ys l) (hle : o + ys.length ≤ xs.length) (hne : ys ≠ []) :
    ∃ h', je.v = false ∧ Step P J Z H h J Z (H.set id (.row e t (xs.take o ++ ys ++ xs.drop (o + ys.length)))) h' ∧ ∀ {S : Type} (k : AH → Option S), AM.stK h je.id (je.off + o * je.z) l k = k h' := by
  have hz := fun x cs (q : DR P h Z t x cs) => q.length
  obtain ⟨je2, hj2, ra⟩ := hr.row ho
  rw [hj] at hj2; cases hj2
  have hg := zl ho rfl
  have hlen : (xs.take o ++ ys ++ xs.drop (o + ys.length)).length = xs.length := by simp; omega
  rcases ra.at' with ⟨_, rfl⟩ | ⟨hv, cs, h1, h2, h3⟩
  · simp at hle; exact absurd hle.2 hne
  · have hll := hs.length hz
    have hm : o * t.size + ys.length * t.size ≤ xs.length * t.size := by rw [← Nat.add_mul]; exact Nat.mul_le_mul_right _ hle
    have x2 : Ext h Z (h.set je.id (.row true e (AM.splice cs (je.off + o * t.size) l))) Z := ⟨fun _ h => h, fun b hb => List.getElem?_set_ne fun he => hr.notOwn hb ⟨id, _, je, hg, rfl, hj, hv, he⟩⟩
    have hseg := Seg.splice hz o h3 hs
    rw [← Vz (by omega)] at hseg
    refine ⟨_, hv, xY (ao := .row true e (AM.splice cs (je.off + o * t.size) l)) hr hg rfl hj hv ⟨ra.z, by rw [hlen]; exact ra.n, ra.sz, ra.inf, .inr ⟨hv, _, by rw [List.getElem?_set_self (List.getElem?_eq_some_iff.1 h1).1], by rw [yZ (by omega), h2, hlen], hseg.mono fun _ _ => DR.mono x2 t⟩⟩, fun k => ?_⟩
    simp only [AM.stK, h1, Option.bind_some, AM.putK]
    rw [ra.z, decide_eq_true (by omega)]; rfl
theorem Ys (hr : HR P J Z H h) {e : TypeId} {t : Ty} {xs : List t.T} {cs : List Sc} (hsz : t.size = P.cellsOf e) (hinf : (P.info? e).isSome = true) (hs : Seg (DR P h Z t) xs cs) :
    Step P J Z H h (J ++ [⟨false, h.length, 0, xs.length, t.size⟩]) Z (H ++ [.row e t xs]) (h ++ [.row true e cs]) := by
  have hz := fun x cs (q : DR P h Z t x cs) => q.length
  have x2 : Ext h Z (h ++ [.row true e cs]) Z := ⟨fun _ h => h, fun id hz => List.getElem?_append_left (hr.zlt id hz)⟩
  exact Wh hr rfl ⟨rfl, rfl, hsz, hinf, .inr ⟨rfl, cs, by simp, by simp [hs.length hz], by simpa using hs.mono fun _ _ => DR.mono x2 t⟩⟩
theorem YS (hr : HR P J Z H h) {e : TypeId} {t : Ty} (hsz : t.size = P.cellsOf e) (hinf : (P.info? e).isSome = true) :
    Step P J Z H h (J ++ [⟨true, 0, 0, 0, t.size⟩]) Z (H ++ [.row e t []]) h :=
  step_virt hr rfl ⟨rfl, rfl, hsz, hinf, .inl ⟨rfl, rfl⟩⟩
theorem yi {α : Type} (l : List α) (x : α) : (l ++ [x])[l.length]? = some x := by simp
theorem appendS_rel (hr : HR P J Z H h) {e : TypeId} {t : Ty} {x : TC} {y : Sc} {new : List t.T} {c : TC → TH → Option R} {cs : List Sc} (hx : TM.appendS H e t x new c = some r) (hv : CR P h Z J x y) (hsz : t.size = P.cellsOf e) (hinf : (P.info? e).isSome = true) (hs : Seg (DR P h Z t) new cs) :
    ∃ v' H' h' J' y', c v' H' = some r ∧ Step P J Z H h J' Z H' h' ∧ CR P h' Z J' v' y' ∧ ∀ {S : Type} (k : Sc → AH → Option S), AM.appendS h e (P.cellsOf e) y cs new.length k = k y' h' := by
  have hz := fun x cs (q : DR P h Z t x cs) => q.length
  unfold TM.appendS at hx
  split at hx
  · obtain ⟨hg, hx1⟩ := gB.1 hx
    simp only [CR] at hv; obtain ⟨eb, rfl⟩ := hv
    cases hn : new with
    | nil =>
      subst hn
      refine ⟨_, _, h, _, .nils eb, hx1, YS hr hsz hinf, ⟨_, by rw [← hr.len, yi], .inl ⟨rfl, eb, rfl⟩⟩, fun k => rfl⟩
    | cons b bs =>
      rw [← hn]
      refine ⟨_, _, _, _, .sl h.length 0 new.length, hx1, Ys hr hsz hinf hs, ⟨_, by rw [← hr.len, yi], .inr ⟨rfl, rfl⟩⟩, fun k => ?_⟩
      have hg' : decide (bs.length + 1 ≤ most) = true := by simpa [hn] using hg
      simp only [hn, List.length_cons, AM.appendS, hg', guardB, cond_true]
  · rename_i id
    split at hx
    · rename_i e' t' xs0 ho
      rcases wB hx with ⟨xs, he, hx1⟩ | ⟨he, hx1⟩
      · cases he
        obtain ⟨hg, hx2⟩ := gB.1 hx1
        obtain ⟨je, hj, ra⟩ := hr.row ho
        obtain ⟨je2, hj2, hsv⟩ := hv
        rw [hj] at hj2; cases hj2
        have hgo := zl ho rfl
        have hlen : (H.set id .dead).length = H.length := by simp
        have hst : ∀ {u : TO}, (H.set id .dead ++ [u]).length = H.length + 1 := by simp
        rcases hsv with ⟨hvv, eb, rfl⟩ | ⟨hvv, rfl⟩
        · rcases ra.at' with ⟨_, rfl⟩ | ⟨hv', _⟩
          · have s1 := Wn hr id
            cases hn : new with
            | nil =>
              subst hn
              exact ⟨_, _, h, _, .nils eb, hx2, s1.trans (YS s1.hr hsz hinf), ⟨_, by rw [← hr.len, yi], .inl ⟨rfl, eb, rfl⟩⟩, fun k => rfl⟩
            | cons b bs =>
              rw [← hn]
              refine ⟨_, _, _, _, .sl h.length 0 new.length, hx2, s1.trans (Ys s1.hr hsz hinf hs), ⟨_, by rw [← hr.len, yi], .inr ⟨rfl, rfl⟩⟩, fun k => ?_⟩
              have hg' : decide (bs.length + 1 ≤ most) = true := by simpa [hn] using hg
              simp only [hn, List.length_cons, AM.appendS, hg', guardB, cond_true]
          · rw [hvv] at hv'; cases hv'
        · rcases ra.at' with ⟨hv', _⟩ | ⟨_, cs0, h1, h2, h3⟩
          · rw [hvv] at hv'; cases hv'
          · cases hn : new with
            | nil =>
              subst hn
              simp only [List.append_nil] at hx2
              have st := Qx (je' := je) (o' := .row e t xs) hr hgo rfl hj hvv rfl (ra.or.mono (Ext.refl _ _) (List.prefix_append _ _) fun _ _ => rfl)
              refine ⟨_, _, h, _, .sl je.id je.off je.n, hx2, st, ⟨je, by rw [← hr.len, yi], .inr ⟨hvv, rfl⟩⟩, fun k => rfl⟩
            | cons b bs =>
              rw [← hn]
              have s1 := xY (ao := .dead) (o' := .dead) hr hgo rfl hj hvv trivial
              have x1 := s1.ext hr
              have s2 := Ys (cs := cs0.drop je.off ++ cs) s1.hr hsz hinf ((h3.append hs).mono fun _ _ => DR.mono x1 t)
              refine ⟨_, _, _, _, .sl h.length 0 (xs ++ new).length, hx2, s1.trans s2, ⟨_, by rw [← hr.len, yi], .inr ⟨rfl, by simp⟩⟩, fun k => ?_⟩
              have hg' : decide (je.n + (bs.length + 1) ≤ most) = true := by rw [ra.n]; simpa [hn] using hg
              simp only [hn, List.length_cons, AM.appendS, h1, Option.bind_some]
              have e1 : Nat.beq (je.off + je.n * P.cellsOf e) cs0.length = true := by rw [h2, ra.n, ra.sz]; exact Nat.beq_refl _
              have e2 : Nat.beq e e = true := Nat.beq_refl _
              rw [e1, e2, hg']
              simp only [Bool.and_self, guardB, cond_true, List.length_append, List.length_cons, ra.n]
      · cases he
    · cases hx
  · cases hx
theorem copyS_rel (hr : HR P J Z H h) {e : TypeId} {t : Ty} {x : TC} {y : Sc} {new : List t.T} {c : TH → Option R} (hx : TM.copyS H e t x new c = some r) (hv : CR P h Z J x y) :
    ∃ m, AM.isSl y = true ∧ AM.slLen y = m ∧ ∀ cs, Seg (DR P h Z t) (new.take (min new.length m)) cs → ∃ H' h', c H' = some r ∧ Step P J Z H h J Z H' h' ∧ (min new.length m = 0 → h' = h) ∧
      (min new.length m ≠ 0 → ∃ id off, y = .sl id off m ∧ ∀ {S : Type} (k : AH → Option S), AM.stK h id off cs k = k h') := by
  unfold TM.copyS at hx
  split at hx
  · rename_i id
    split at hx
    · rename_i e' t' xs0 ho
      rcases wB hx with ⟨xs, he, hx1⟩ | ⟨he, hx1⟩
      · cases he
        obtain ⟨je, hj, ra⟩ := hr.row ho
        obtain ⟨je2, hj2, hsv⟩ := hv
        rw [hj] at hj2; cases hj2
        have hgo := zl ho rfl
        refine ⟨xs.length, ?_, ?_, fun cs hcs => ?_⟩
        · rcases hsv with ⟨_, b, rfl⟩ | ⟨_, rfl⟩ <;> rfl
        · rcases hsv with ⟨hvv, b, rfl⟩ | ⟨hvv, rfl⟩
          · rcases ra.at' with ⟨_, rfl⟩ | ⟨hv', _⟩
            · rfl
            · rw [hvv] at hv'; cases hv'
          · exact ra.n
        · by_cases hm : min new.length xs.length = 0
          · have e1 : new.take xs.length ++ xs.drop new.length = xs := by
              rcases Nat.lt_or_ge 0 new.length with h1 | h1
              · have : xs.length = 0 := by omega
                have : xs = [] := List.length_eq_zero_iff.1 this
                subst this; simp
              · have : new = [] := List.length_eq_zero_iff.1 (by omega)
                subst this; simp
            rw [e1] at hx1
            exact ⟨_, h, hx1, Wl hr hgo rfl hj ra.or, fun _ => rfl, fun h => absurd hm h⟩
          · have hne : new.take (min new.length xs.length) ≠ [] := by intro h0; have := congrArg List.length h0; simp only [List.length_take, List.length_nil] at this; omega
            obtain ⟨h', hvv, st, hk⟩ := Qd (o := 0) hr ho hj hcs (by simp; omega) hne
            have e1 : new.take xs.length ++ xs.drop new.length = xs.take 0 ++ new.take (min new.length xs.length) ++ xs.drop (0 + (new.take (min new.length xs.length)).length) := by
              simp only [List.take_zero, List.nil_append, Nat.zero_add, List.length_take]
              rcases Nat.le_total new.length xs.length with h1 | h1
              · rw [Nat.min_eq_left h1, List.take_of_length_le h1, List.take_of_length_le (Nat.le_refl _)]; simp
              · rw [Nat.min_eq_right h1, List.drop_of_length_le h1]; simp; omega
            rw [e1] at hx1
            refine ⟨_, h', hx1, st, fun h => absurd h hm, fun _ => ?_⟩
            rcases hsv with ⟨hv', _⟩ | ⟨_, rfl⟩
            · rw [hvv] at hv'; cases hv'
            · exact ⟨je.id, je.off, by rw [ra.n], fun k => by have := hk k; simpa using this⟩
      · cases he
    · cases hx
  · rename_i id o n
    split at hx
    · rename_i e' t' xs0 ho
      rcases wB hx with ⟨xs, he, hx1⟩ | ⟨he, hx1⟩
      · cases he
        obtain ⟨hg, hx2⟩ := gB.1 hx1
        have hg := of_decide_eq_true hg
        obtain ⟨je, hj, ra⟩ := hr.row ho
        obtain ⟨je2, hj2, hsv⟩ := hv
        rw [hj] at hj2; cases hj2
        have hgo := zl ho rfl
        refine ⟨n, ?_, ?_, fun cs hcs => ?_⟩
        · rcases hsv with ⟨_, _, b, rfl⟩ | ⟨_, rfl⟩ <;> rfl
        · rcases hsv with ⟨hvv, rfl, b, rfl⟩ | ⟨hvv, rfl⟩ <;> rfl
        · by_cases hm : min new.length n = 0
          · have e1 : xs.take o ++ new.take n ++ xs.drop (o + min n new.length) = xs := by
              rw [Nat.min_comm, hm]
              have : new.take n = [] := by apply List.length_eq_zero_iff.1; simp only [List.length_take]; omega
              rw [this]; simp
            rw [e1] at hx2
            exact ⟨_, h, hx2, Wl hr hgo rfl hj ra.or, fun _ => rfl, fun h => absurd hm h⟩
          · have hne : new.take (min new.length n) ≠ [] := by intro h0; have := congrArg List.length h0; simp only [List.length_take, List.length_nil] at this; omega
            obtain ⟨h', hvv, st, hk⟩ := Qd (o := o) hr ho hj hcs (by simp; omega) hne
            have e0 : new.take n = new.take (min new.length n) := by
              rcases Nat.le_total new.length n with h1 | h1
              · rw [Nat.min_eq_left h1, List.take_of_length_le h1, List.take_of_length_le (Nat.le_refl _)]
              · rw [Nat.min_eq_right h1]
            have e1 : xs.take o ++ new.take n ++ xs.drop (o + min n new.length) = xs.take o ++ new.take (min new.length n) ++ xs.drop (o + (new.take (min new.length n)).length) := by
              rw [e0]; simp only [List.length_take]; congr 2; omega
            rw [e1] at hx2
            refine ⟨_, h', hx2, st, fun h => absurd h hm, fun _ => ?_⟩
            rcases hsv with ⟨hv', _⟩ | ⟨_, rfl⟩
            · rw [hvv] at hv'; cases hv'
            · exact ⟨je.id, _, rfl, fun k => hk k⟩
      · cases he
    · cases hx
  · cases hx
end Go.TM
