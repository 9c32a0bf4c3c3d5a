/- DiskAll: it returns true at every input; no conditions. -/
import Derived.Test.YtchgjjgdgbecmaaG1
import Derived.Test.YtchgjjgdgbecmaaRows
import Derived.ProofKit
set_option linter.all false
set_option linter.constructorNameAsVariable false
set_option linter.unnecessarySimpa false
set_option linter.unusedSimpArgs false
set_option linter.unusedVariables false
set_option linter.unusedVariables false
namespace Go.Proofs.Ytchgjjgdgbecmaa
open Go Go.AM Go.TM Go.Proofs

@[simp] theorem ok_some {α : Type} (x : α) : ok (some x) = true := rfl
@[simp] theorem val_some {α : Type} [Inhabited α] (x : α) : val (some x) = x := rfl
theorem cond_nb {α : Type} (b : Bool) (x y : α) : cond (!b) x y = cond b y x := by cases b <;> rfl
theorem wrap_id {x : Int} (h1 : -9223372036854775808 ≤ x) (h2 : x ≤ 9223372036854775807) : IntKind.wrap IntKind.i64 x = x := by
  simp [IntKind.wrap, IntKind.bits, IntKind.signed]
  omega
/-- A pending write. -/
abbrev Wr := Int × List Int
/-- How long a list is, in memory. -/
abbrev Short {α : Type} (l : List α) : Prop := l.length ≤ 2147483648
theorem up1 {i : Nat} (h : i ≤ 2147483648) : IntKind.wrap IntKind.i64 ((i : Int) + 1) = ((i + 1 : Nat) : Int) := by rw [wrap_id (by omega) (by omega)]; omega
theorem getD_drop {α : Type} {l : List α} {i : Nat} (h : i < l.length) (d : α) : l.drop i = l.getD i d :: l.drop (i + 1) := by
  rw [List.drop_eq_getElem_cons h]
  congr 1
  simp [List.getD, List.getElem?_eq_getElem h]

/-! ### Equal lists -/
theorem l23 (x y : List Int) (hl : x.length = y.length) (hs : Short x) : ∀ (k n i : Nat), i + k = x.length → k < n → L23_0_0 n x y (i : Int) = some (cond (decide (x.drop i = y.drop i)) (.inr ()) (.inl false)) := by
  intro k
  induction k with
  | zero =>
    intro n i h1 h2
    cases n with
    | zero => omega
    | succ n =>
      rw [qL23_0_0, decide_eq_false (show ¬ ((i : Int) < (x.length : Int)) by omega), List.drop_of_length_le (show x.length ≤ i by omega), List.drop_of_length_le (show y.length ≤ i by omega)]
      simp
  | succ k ih =>
    intro n i h1 h2
    cases n with
    | zero => omega
    | succ n =>
      have hi : i < x.length := by omega
      rw [qL23_0_0, decide_eq_true (show (i : Int) < (x.length : Int) by omega), decide_eq_true (show (0 : Int) ≤ (i : Int) by omega), decide_eq_true (show (i : Int) < (y.length : Int) by omega), up1 (by have := hs; omega), ih n (i + 1) (by omega) (by omega)]
      simp only [cond_true, Int.toNat_natCast]
      rw [getD_drop hi 0, getD_drop (l := y) (i := i) (by omega) 0]
      by_cases e : x.getD i 0 = y.getD i 0
      · rw [e]; simp
      · have e' : (x.getD i 0 != y.getD i 0) = true := by simpa using e
        rw [e']
        simp only [cond_true, List.cons.injEq, e, false_and, decide_false, cond_false]
theorem v23_eq (x y : List Int) (hs : Short x) : v23 x y = some (decide (x = y)) := by
  unfold v23
  by_cases hl : x.length = y.length
  · have := l23 x y hl hs x.length FU 0 (by omega) (by have := hs; unfold FU; omega)
    simp only [List.drop_zero, Int.natCast_zero] at this
    have e : ((↑(List.length x) : Int) != (↑(List.length y) : Int)) = false := by simp [hl]
    rw [e, this]
    by_cases h : x = y
    · simp [h, isL, getL, getR]
    · simp [h, isL, getL, getR]
  · have e : ((↑(List.length x) : Int) != (↑(List.length y) : Int)) = true := by simp; omega
    rw [e]
    have : x ≠ y := fun h => hl (by rw [h])
    simp [this]

/-! ### Equal disks -/
theorem l22 (a : Int) (x : List Int) (p : List Wr) (b : Int) (y : List Int) (q : List Wr) (hl : p.length = q.length) (hs : Short p) (hw : ∀ w ∈ p, Short w.2) : ∀ (k n i : Nat), i + k = p.length → k < n →
    L22_0_0 n (i : Int) a x p b y q = some (.inr (.inr ())) ∧ p.drop i = q.drop i ∨ (L22_0_0 n (i : Int) a x p b y q = some (.inl false) ∨ L22_0_0 n (i : Int) a x p b y q = some (.inr (.inl false))) ∧ p.drop i ≠ q.drop i := by
  intro k
  induction k with
  | zero =>
    intro n i h1 h2
    cases n with
    | zero => omega
    | succ n =>
      left
      rw [qL22_0_0, decide_eq_false (show ¬ ((i : Int) < (p.length : Int)) by omega), List.drop_of_length_le (show p.length ≤ i by omega), List.drop_of_length_le (show q.length ≤ i by omega)]
      exact ⟨rfl, rfl⟩
  | succ k ih =>
    intro n i h1 h2
    cases n with
    | zero => omega
    | succ n =>
      have hi : i < p.length := by omega
      have hm : p.getD i ((0 : Int), []) ∈ p := by
        have : p.getD i ((0 : Int), []) = p[i] := by simp [List.getD, List.getElem?_eq_getElem hi]
        rw [this]; exact List.getElem_mem hi
      rw [qL22_0_0, decide_eq_true (show (i : Int) < (p.length : Int) by omega), decide_eq_true (show (0 : Int) ≤ (i : Int) by omega), decide_eq_true (show (i : Int) < (q.length : Int) by omega), up1 (by have := hs; omega)]
      simp only [cond_true, Int.toNat_natCast, v23_eq _ _ (hw _ hm), ok_some, val_some, cond_nb]
      rw [getD_drop hi ((0 : Int), []), getD_drop (l := q) (i := i) (by omega) ((0 : Int), [])]
      by_cases e1 : (p.getD i ((0 : Int), [])).1 = (q.getD i ((0 : Int), [])).1
      · have e' : ((p.getD i ((0 : Int), [])).1 != (q.getD i ((0 : Int), [])).1) = false := by simpa using e1
        rw [e', cond_false]
        by_cases e2 : (p.getD i ((0 : Int), [])).2 = (q.getD i ((0 : Int), [])).2
        · rw [decide_eq_true e2, cond_true]
          have e3 : p.getD i ((0 : Int), []) = q.getD i ((0 : Int), []) := Prod.ext e1 e2
          rcases ih n (i + 1) (by omega) (by omega) with ⟨h3, h4⟩ | ⟨h3, h4⟩
          · exact .inl ⟨h3, by rw [e3, h4]⟩
          · exact .inr ⟨h3, fun h => h4 (List.cons.inj h).2⟩
        · rw [decide_eq_false e2, cond_false]
          exact .inr ⟨.inr rfl, fun h => e2 (by rw [(List.cons.inj h).1])⟩
      · have e' : ((p.getD i ((0 : Int), [])).1 != (q.getD i ((0 : Int), [])).1) = true := by simpa using e1
        rw [e', cond_true]
        exact .inr ⟨.inl rfl, fun h => e1 (by rw [(List.cons.inj h).1])⟩
/-- A disk: its block's length, its bytes, its pending writes. -/
abbrev Dk := Int × List Int × List Wr
theorem v22_eq (a : Int) (x : List Int) (p : List Wr) (b : Int) (y : List Int) (q : List Wr) (hx : Short x) (hs : Short p) (hw : ∀ w ∈ p, Short w.2) : v22 a x p b y q = some (decide (((a, x, p) : Dk) = (b, y, q))) := by
  unfold v22
  simp only [v23_eq x y hx, ok_some, val_some, cond_true, cond_nb]
  by_cases h1 : a = b
  · have e1 : (a != b) = false := by simpa using h1
    rw [e1, cond_false]
    by_cases h2 : x = y
    · rw [decide_eq_true h2, cond_true]
      by_cases h3 : p.length = q.length
      · have e3 : ((↑(List.length p) : Int) != (↑(List.length q) : Int)) = false := by simp [h3]
        rw [e3, cond_false]
        have := l22 a x p b y q h3 hs hw p.length FU 0 (by omega) (by have := hs; unfold FU; omega)
        simp only [List.drop_zero, Int.natCast_zero] at this
        rcases this with ⟨k1, k2⟩ | ⟨k1 | k1, k2⟩
        · rw [k1]; subst h1; subst h2; subst k2; simp [isL, getR]
        · rw [k1]; simp [isL, getL, k2]
        · rw [k1]; simp [isL, getL, getR, k2]
      · have e3 : ((↑(List.length p) : Int) != (↑(List.length q) : Int)) = true := by simp; omega
        rw [e3, cond_true]
        have : p ≠ q := fun h => h3 (by rw [h])
        simp [this]
    · rw [decide_eq_false h2, cond_false]; simp [h2]
  · have e1 : (a != b) = true := by simpa using h1
    rw [e1, cond_true]; simp [h1]

/-! ### Few -/
def few (x : List Int) (p : List Wr) : Bool := (p.all fun w => decide (w.2.length ≤ 600)) && decide (x.length ≤ 4000) && decide (p.length ≤ 80)
theorem up2 {i : Nat} (h : i + 1 ≤ 9223372036854775807) : IntKind.wrap IntKind.i64 ((i : Int) + 1) = ((i + 1 : Nat) : Int) := by rw [wrap_id (by omega) (by omega)]; omega
theorem l11 (a : Int) (x : List Int) (p : List Wr) (hs : p.length ≤ 9223372036854775807) : ∀ (k n i : Nat), i + k = p.length → k < n → L11_0_0 n (i : Int) a x p = some (cond ((p.drop i).all fun w => decide (w.2.length ≤ 600)) (.inr ()) (.inl false)) := by
  intro k
  induction k with
  | zero =>
    intro n i h1 h2
    cases n with
    | zero => omega
    | succ n =>
      rw [qL11_0_0, decide_eq_false (show ¬ ((i : Int) < (p.length : Int)) by omega), List.drop_of_length_le (show p.length ≤ i by omega)]
      rfl
  | succ k ih =>
    intro n i h1 h2
    cases n with
    | zero => omega
    | succ n =>
      have hi : i < p.length := by omega
      rw [qL11_0_0, decide_eq_true (show (i : Int) < (p.length : Int) by omega), decide_eq_true (show (0 : Int) ≤ (i : Int) by omega), up2 (by omega), ih n (i + 1) (by omega) (by omega)]
      simp only [cond_true, Int.toNat_natCast]
      rw [getD_drop hi ((0 : Int), []), List.all_cons]
      by_cases e : (p.getD i ((0 : Int), [])).2.length ≤ 600
      · rw [decide_eq_false (show ¬ ((↑(p.getD i ((0 : Int), [])).2.length : Int) > 600) by omega), decide_eq_true e]; rfl
      · rw [decide_eq_true (show ((↑(p.getD i ((0 : Int), [])).2.length : Int) > 600) by omega), decide_eq_false e]; rfl
theorem v11_eq (a : Int) (x : List Int) (p : List Wr) (hs : p.length ≤ 9223372036854775807) : v11 a x p = some (few x p) := by
  have := l11 a x p hs p.length FU 0 (by omega) (by unfold FU; omega)
  simp only [List.drop_zero, Int.natCast_zero] at this
  unfold v11 few
  rw [this]
  rw [show decide ((↑x.length : Int) ≤ 4000) = decide (x.length ≤ 4000) by congr 1; apply propext; omega, show decide ((↑p.length : Int) ≤ 80) = decide (p.length ≤ 80) by congr 1; apply propext; omega]
  cases p.all fun w => decide (w.2.length ≤ 600) <;> cases decide (x.length ≤ 4000) <;> rfl
end Go.Proofs.Ytchgjjgdgbecmaa
set_option linter.unusedVariables false
namespace Go.Proofs.Ytchgjjgdgbecmaa
open Go Go.AM Go.TM Go.Proofs

/-- A write of a block that there is, with as many bytes. -/
def okW (m b : Int) (w : Wr) : Bool := decide (0 ≤ w.1 ∧ w.1 < m / b ∧ (w.2.length : Int) = b)
def valid (b : Int) (x : List Int) (p : List Wr) : Bool := decide (1 ≤ b ∧ b ≤ 512 ∧ b ≤ (x.length : Int) ∧ x.length ≤ 65536 ∧ (x.length : Int) % b = 0 ∧ p.length ≤ 64) && p.all (okW x.length b)

theorem tdiv_len (n : Nat) (b : Int) : Int.tdiv (n : Int) b = (n : Int) / b := Int.tdiv_eq_ediv_of_nonneg (by omega)
theorem tmod_len (n : Nat) (b : Int) : Int.tmod (n : Int) b = (n : Int) % b := Int.tmod_eq_emod_of_nonneg (by omega)
theorem div_bd {n : Nat} {b : Int} (h : n ≤ 2147483648) (hb : 1 ≤ b) : 0 ≤ (n : Int) / b ∧ (n : Int) / b ≤ 2147483648 := by
  have h1 := Int.ediv_nonneg (show (0 : Int) ≤ n by omega) (show 0 ≤ b by omega)
  have h2 := Int.ediv_le_self b (show (0 : Int) ≤ n by omega)
  omega
theorem v30_eq {b k : Int} {x : List Int} {p : List Wr} (hs : Short x) (hb : 1 ≤ b) : v30 b x p k = some (decide (0 ≤ k ∧ k < (x.length : Int) / b)) := by
  have := div_bd (n := x.length) (b := b) hs hb
  unfold v30
  rw [tdiv_len, wrap_id (by omega) (by omega), show decide (b ≠ 0) = true by rw [decide_eq_true_iff]; omega]
  by_cases h : 0 ≤ k
  · rw [decide_eq_true (show k ≥ 0 from h)]; simp [h]
  · rw [decide_eq_false (show ¬ k ≥ 0 from h)]; simp [h]
theorem v34_eq {b : Int} {x : List Int} {p : List Wr} (hs : Short x) (hb : 1 ≤ b) (w : Wr) : v34 w.1 w.2 b x p = some (!okW x.length b w) := by
  unfold v34
  rw [v30_eq hs hb]
  simp only [ok_some, val_some, cond_true, cond_nb]
  unfold okW
  by_cases h1 : 0 ≤ w.1 ∧ w.1 < (x.length : Int) / b
  · rw [decide_eq_true h1, cond_true]
    by_cases h2 : (w.2.length : Int) = b
    · rw [decide_eq_true ⟨h1.1, h1.2, h2⟩]; simp [h2]
    · rw [decide_eq_false (fun h => h2 h.2.2)]
      have : ((↑w.2.length : Int) != b) = true := by simpa using h2
      rw [this]; rfl
  · rw [decide_eq_false h1, cond_false, decide_eq_false (fun h => h1 ⟨h.1, h.2.1⟩)]; rfl
theorem l36 {b : Int} {x : List Int} {p : List Wr} (hs : Short x) (hb : 1 ≤ b) (q : List Wr) (hq : Short q) : ∀ (k n i : Nat), i + k = q.length → k < n →
    L36_0_0 n q (q.length : Int) (i : Int) b x p = some (.inr ()) ∧ (q.drop i).all (okW x.length b) = true ∨ (∃ j : Int, 0 ≤ j ∧ L36_0_0 n q (q.length : Int) (i : Int) b x p = some (.inl j)) ∧ (q.drop i).all (okW x.length b) = false := by
  intro k
  induction k with
  | zero =>
    intro n i h1 h2
    cases n with
    | zero => omega
    | succ n =>
      left
      rw [qL36_0_0, decide_eq_false (show ¬ ((i : Int) < (q.length : Int)) by omega), List.drop_of_length_le (show q.length ≤ i by omega)]
      exact ⟨rfl, rfl⟩
  | succ k ih =>
    intro n i h1 h2
    cases n with
    | zero => omega
    | succ n =>
      have hi : i < q.length := by omega
      rw [qL36_0_0, decide_eq_true (show (i : Int) < (q.length : Int) by omega), decide_eq_true (show (0 : Int) ≤ (i : Int) by omega), up1 (by have := hq; omega)]
      simp only [cond_true, Int.toNat_natCast, v34_eq hs hb, ok_some, val_some, cond_nb]
      rw [getD_drop hi ((0 : Int), []), List.all_cons]
      cases okW x.length b (q.getD i ((0 : Int), []))
      · exact .inr ⟨⟨i, by omega, rfl⟩, rfl⟩
      · simp only [cond_true, Bool.true_and]
        exact ih n (i + 1) (by omega) (by omega)
theorem v35_eq {b : Int} {x : List Int} {p : List Wr} (hs : Short x) (hb : 1 ≤ b) (q : List Wr) (hq : Short q) : v35 q b x p = some (!q.all (okW x.length b)) := by
  have := l36 (p := p) hs hb q hq q.length FU 0 (by omega) (by have := hq; unfold FU; omega)
  simp only [List.drop_zero, Int.natCast_zero] at this
  unfold v35 v36
  rcases this with ⟨h1, h2⟩ | ⟨⟨j, hj, h1⟩, h2⟩
  · rw [h1, h2]; simp [isL, getR]
  · rw [h1, h2]; simp [isL, getL, hj]
theorem v24_eq (b : Int) (x : List Int) (p : List Wr) : v24 b x p = some (valid b x p) := by
  unfold v24 valid
  generalize hd : decide (1 ≤ b ∧ b ≤ 512 ∧ b ≤ (x.length : Int) ∧ x.length ≤ 65536 ∧ (x.length : Int) % b = 0 ∧ p.length ≤ 64) = v
  have no : ¬ (1 ≤ b ∧ b ≤ 512 ∧ b ≤ (x.length : Int) ∧ x.length ≤ 65536 ∧ (x.length : Int) % b = 0 ∧ p.length ≤ 64) → v = false := fun h => by rw [← hd]; exact decide_eq_false h
  have yes : (1 ≤ b ∧ b ≤ 512 ∧ b ≤ (x.length : Int) ∧ x.length ≤ 65536 ∧ (x.length : Int) % b = 0 ∧ p.length ≤ 64) → v = true := fun h => by rw [← hd]; exact decide_eq_true h
  clear hd
  by_cases h1 : 1 ≤ b
  · rw [decide_eq_false (show ¬ b < 1 by omega), cond_false]
    by_cases h2 : b ≤ 512
    · rw [decide_eq_false (show ¬ b > 512 by omega), cond_false]
      by_cases h3 : b ≤ (x.length : Int)
      · rw [decide_eq_false (show ¬ (x.length : Int) < b by omega), cond_false]
        by_cases h4 : x.length ≤ 65536
        · rw [decide_eq_false (show ¬ (x.length : Int) > 65536 by omega), cond_false, decide_eq_true (show b ≠ 0 by omega), cond_true, tmod_len]
          by_cases h5 : (x.length : Int) % b = 0
          · rw [show ((x.length : Int) % b != 0) = false by simpa using h5, cond_false]
            by_cases h6 : p.length ≤ 64
            · rw [decide_eq_false (show ¬ (p.length : Int) > 64 by omega), cond_false, v35_eq (by show _ ≤ _; omega) h1 p (by show _ ≤ _; omega), yes ⟨h1, h2, h3, h4, h5, h6⟩]
              simp
            · rw [decide_eq_true (show (p.length : Int) > 64 by omega), no (fun h => h6 h.2.2.2.2.2)]; rfl
          · rw [show ((x.length : Int) % b != 0) = true by simpa using h5, no (fun h => h5 h.2.2.2.2.1)]; rfl
        · rw [decide_eq_true (show (x.length : Int) > 65536 by omega), no (fun h => h4 h.2.2.2.1)]; rfl
      · rw [decide_eq_true (show (x.length : Int) < b by omega), no (fun h => h3 h.2.2.1)]; rfl
    · rw [decide_eq_true (show b > 512 by omega), no (fun h => h2 h.2.1)]; rfl
  · rw [decide_eq_true (show b < 1 by omega), no (fun h => h1 h.1)]; rfl
theorem l25 {b : Int} {x : List Int} {q : List Wr} (hs : Short x) (hb : 1 ≤ b) (hq : Short q) : ∀ (k n i : Nat), i + k = q.length → k < n →
    L25_0_0 n (x.length : Int) (i : Int) b x q = some (.inr (.inr (.inr ()))) ∧ (q.drop i).all (okW x.length b) = true ∨
    (L25_0_0 n (x.length : Int) (i : Int) b x q = some (.inl false) ∨ L25_0_0 n (x.length : Int) (i : Int) b x q = some (.inr (.inl false)) ∨ L25_0_0 n (x.length : Int) (i : Int) b x q = some (.inr (.inr (.inl false)))) ∧ (q.drop i).all (okW x.length b) = false := by
  have hd := div_bd (n := x.length) (b := b) hs hb
  intro k
  induction k with
  | zero =>
    intro n i h1 h2
    cases n with
    | zero => omega
    | succ n =>
      left
      rw [qL25_0_0, decide_eq_false (show ¬ ((i : Int) < (q.length : Int)) by omega), List.drop_of_length_le (show q.length ≤ i by omega)]
      exact ⟨rfl, rfl⟩
  | succ k ih =>
    intro n i h1 h2
    cases n with
    | zero => omega
    | succ n =>
      have hi : i < q.length := by omega
      rw [qL25_0_0, decide_eq_true (show (i : Int) < (q.length : Int) by omega), decide_eq_true (show (0 : Int) ≤ (i : Int) by omega), up1 (by have := hq; omega), tdiv_len, wrap_id (x := (x.length : Int) / b) (by omega) (by omega), decide_eq_true (show b ≠ 0 by omega)]
      simp only [cond_true, Int.toNat_natCast]
      rw [getD_drop hi ((0 : Int), []), List.all_cons]
      unfold okW
      by_cases g1 : 0 ≤ (q.getD i ((0 : Int), [])).1
      · rw [decide_eq_false (show ¬ (q.getD i ((0 : Int), [])).1 < 0 by omega), cond_false]
        by_cases g2 : (q.getD i ((0 : Int), [])).1 < (x.length : Int) / b
        · rw [decide_eq_false (show ¬ (q.getD i ((0 : Int), [])).1 ≥ (x.length : Int) / b by omega), cond_false]
          by_cases g3 : ((q.getD i ((0 : Int), [])).2.length : Int) = b
          · rw [show (((q.getD i ((0 : Int), [])).2.length : Int) != b) = false by simpa using g3, cond_false, decide_eq_true ⟨g1, g2, g3⟩, Bool.true_and]
            exact ih n (i + 1) (by omega) (by omega)
          · rw [show (((q.getD i ((0 : Int), [])).2.length : Int) != b) = true by simpa using g3, decide_eq_false (fun h => g3 h.2.2)]
            exact .inr ⟨.inr (.inr rfl), rfl⟩
        · rw [decide_eq_true (show (q.getD i ((0 : Int), [])).1 ≥ (x.length : Int) / b by omega), decide_eq_false (fun h => g2 h.2.1)]
          exact .inr ⟨.inr (.inl rfl), rfl⟩
      · rw [decide_eq_true (show (q.getD i ((0 : Int), [])).1 < 0 by omega)]
        refine .inr ⟨.inl rfl, ?_⟩
        rw [Bool.and_eq_false_iff]; left
        exact decide_eq_false (fun h => g1 h.1)
theorem v25_eq (b : Int) (x : List Int) (p : List Wr) : v25 b x p = some (valid b x p) := by
  unfold v25 valid
  generalize hd : decide (1 ≤ b ∧ b ≤ 512 ∧ b ≤ (x.length : Int) ∧ x.length ≤ 65536 ∧ (x.length : Int) % b = 0 ∧ p.length ≤ 64) = v
  have no : ¬ (1 ≤ b ∧ b ≤ 512 ∧ b ≤ (x.length : Int) ∧ x.length ≤ 65536 ∧ (x.length : Int) % b = 0 ∧ p.length ≤ 64) → v = false := fun h => by rw [← hd]; exact decide_eq_false h
  have yes : (1 ≤ b ∧ b ≤ 512 ∧ b ≤ (x.length : Int) ∧ x.length ≤ 65536 ∧ (x.length : Int) % b = 0 ∧ p.length ≤ 64) → v = true := fun h => by rw [← hd]; exact decide_eq_true h
  clear hd
  by_cases h1 : 1 ≤ b
  · rw [decide_eq_false (show ¬ b < 1 by omega), cond_false]
    by_cases h2 : b ≤ 512
    · rw [decide_eq_false (show ¬ b > 512 by omega), cond_false]
      by_cases h3 : b ≤ (x.length : Int)
      · rw [decide_eq_false (show ¬ (x.length : Int) < b by omega), cond_false]
        by_cases h4 : x.length ≤ 65536
        · rw [decide_eq_false (show ¬ (x.length : Int) > 65536 by omega), cond_false, decide_eq_true (show b ≠ 0 by omega), cond_true, tmod_len]
          by_cases h5 : (x.length : Int) % b = 0
          · rw [show ((x.length : Int) % b != 0) = false by simpa using h5, cond_false]
            by_cases h6 : p.length ≤ 64
            · rw [decide_eq_false (show ¬ (p.length : Int) > 64 by omega), cond_false, yes ⟨h1, h2, h3, h4, h5, h6⟩]
              have := l25 (x := x) (q := p) (by show _ ≤ _; omega) h1 (by show _ ≤ _; omega) p.length FU 0 (by omega) (by unfold FU; omega)
              simp only [List.drop_zero, Int.natCast_zero] at this
              rcases this with ⟨k1, k2⟩ | ⟨k1 | k1 | k1, k2⟩ <;> rw [k1, k2] <;> rfl
            · rw [decide_eq_true (show (p.length : Int) > 64 by omega), no (fun h => h6 h.2.2.2.2.2)]; rfl
          · rw [show ((x.length : Int) % b != 0) = true by simpa using h5, no (fun h => h5 h.2.2.2.2.1)]; rfl
        · rw [decide_eq_true (show (x.length : Int) > 65536 by omega), no (fun h => h4 h.2.2.2.1)]; rfl
      · rw [decide_eq_true (show (x.length : Int) < b by omega), no (fun h => h3 h.2.2.1)]; rfl
    · rw [decide_eq_true (show b > 512 by omega), no (fun h => h2 h.2.1)]; rfl
  · rw [decide_eq_true (show b < 1 by omega), no (fun h => h1 h.1)]; rfl
/-- What a valid disk is like. -/
structure Val (b : Int) (x : List Int) (p : List Wr) : Prop where
  b1 : 1 ≤ b
  b2 : b ≤ 512
  x1 : b ≤ (x.length : Int)
  x2 : x.length ≤ 65536
  md : (x.length : Int) % b = 0
  p1 : p.length ≤ 64
  ws : ∀ w ∈ p, 0 ≤ w.1 ∧ w.1 < (x.length : Int) / b ∧ (w.2.length : Int) = b
theorem valid_iff {b : Int} {x : List Int} {p : List Wr} : valid b x p = true ↔ Val b x p := by
  unfold valid
  rw [Bool.and_eq_true, decide_eq_true_iff, List.all_eq_true]
  constructor
  · rintro ⟨⟨h1, h2, h3, h4, h5, h6⟩, h7⟩
    exact ⟨h1, h2, h3, h4, h5, h6, fun w hw => of_decide_eq_true (h7 w hw)⟩
  · rintro ⟨h1, h2, h3, h4, h5, h6, h7⟩
    exact ⟨⟨h1, h2, h3, h4, h5, h6⟩, fun w hw => decide_eq_true (h7 w hw)⟩
end Go.Proofs.Ytchgjjgdgbecmaa
set_option linter.unusedVariables false
namespace Go.Proofs.Ytchgjjgdgbecmaa
open Go Go.AM Go.TM Go.Proofs

/-- The first m bytes of a write's data are laid in its block. -/
def pt (B : Nat) (out : List Int) (w : Wr) (m : Nat) : List Int := out.take (w.1.toNat * B) ++ w.2.take m ++ out.drop (w.1.toNat * B + m)
/-- A write is done. -/
def wr (B : Nat) (out : List Int) (w : Wr) : List Int := out.take (w.1.toNat * B) ++ w.2.take B ++ out.drop (w.1.toNat * B + min B w.2.length)
/-- A block that lies within m bytes. -/
def Fits (B m : Nat) (w : Wr) : Prop := 0 ≤ w.1 ∧ (w.1.toNat + 1) * B ≤ m

theorem fits_of {B m : Nat} {w : Wr} (hB : 1 ≤ B) (h1 : 0 ≤ w.1) (h2 : w.1 < (m : Int) / (B : Int)) : Fits B m w := by
  refine ⟨h1, ?_⟩
  have h3 : w.1 + 1 ≤ (m : Int) / (B : Int) := by omega
  have h4 := (Int.le_ediv_iff_mul_le (show (0 : Int) < (B : Int) by omega)).1 h3
  obtain ⟨k, hk⟩ := Int.eq_ofNat_of_zero_le h1
  rw [hk] at h4 ⊢
  simp only [Int.toNat_natCast]
  have h5 : (((k + 1) * B : Nat) : Int) ≤ (m : Int) := by push_cast; exact h4
  exact Int.ofNat_le.1 h5
theorem pt_length {B m : Nat} {out : List Int} {w : Wr} (hf : Fits B out.length w) (h1 : m ≤ B) (h2 : m ≤ w.2.length) : (pt B out w m).length = out.length := by
  have := hf.2
  rw [Nat.add_mul] at this
  unfold pt
  simp only [List.length_append, List.length_take, List.length_drop]
  omega
theorem wr_length {B : Nat} {out : List Int} {w : Wr} (hf : Fits B out.length w) : (wr B out w).length = out.length := by
  have := hf.2
  rw [Nat.add_mul] at this
  unfold wr
  simp only [List.length_append, List.length_take, List.length_drop]
  omega
theorem pt_zero (B : Nat) (out : List Int) (w : Wr) : pt B out w 0 = out := by
  unfold pt; simp
/-- Where a block begins. -/
theorem at_eq {B m : Nat} {w : Wr} (hf : Fits B m w) (hm : m ≤ 2147483648) (hB : B ≤ 512) :
    IntKind.wrap IntKind.i64 (w.1 * (B : Int)) = ((w.1.toNat * B : Nat) : Int) ∧ IntKind.wrap IntKind.i64 (IntKind.wrap IntKind.i64 (w.1 + 1) * (B : Int)) = ((w.1.toNat * B + B : Nat) : Int) ∨ B = 0 := by
  rcases Nat.eq_zero_or_pos B with h | h
  · exact .inr h
  left
  have h2 := hf.2
  obtain ⟨k, hk⟩ := Int.eq_ofNat_of_zero_le hf.1
  rw [hk] at h2 ⊢
  simp only [Int.toNat_natCast] at h2 ⊢
  have h3 : k + 1 ≤ (k + 1) * B := Nat.le_mul_of_pos_right _ h
  rw [Nat.add_mul, Nat.one_mul] at h2 h3
  have e1 : ((k : Int) * (B : Int)) = ((k * B : Nat) : Int) := by push_cast; rfl
  have e2 : (((k : Int) + 1) * (B : Int)) = ((k * B + B : Nat) : Int) := by push_cast; rw [Int.add_mul, Int.one_mul]
  constructor
  · rw [e1, wrap_id (by omega) (by omega)]
  · rw [wrap_id (x := (k : Int) + 1) (by omega) (by omega), e2, wrap_id (by omega) (by omega)]
theorem l33 {B m : Nat} (hB : 1 ≤ B) (hB2 : B ≤ 512) (hm : m ≤ 2147483648) (l : List Wr) (hl : Short l) (hw : ∀ w ∈ l, Fits B m w) (bs : List Int) (ps : List Wr) : ∀ (k n i : Nat) (out : List Int), i + k = l.length → k < n → out.length = m →
    L33_0_0 n l (l.length : Int) (i : Int) (B : Int) bs ps out = some ((l.drop i).foldl (wr B) out) := by
  intro k
  induction k with
  | zero =>
    intro n i out h1 h2 h3
    cases n with
    | zero => omega
    | succ n =>
      rw [qL33_0_0, decide_eq_false (show ¬ ((i : Int) < (l.length : Int)) by omega), List.drop_of_length_le (show l.length ≤ i by omega)]
      rfl
  | succ k ih =>
    intro n i out h1 h2 h3
    cases n with
    | zero => omega
    | succ n =>
      have hi : i < l.length := by omega
      have hmem : l.getD i ((0 : Int), []) ∈ l := by
        have : l.getD i ((0 : Int), []) = l[i] := by simp [List.getD, List.getElem?_eq_getElem hi]
        rw [this]; exact List.getElem_mem hi
      have hf := hw _ hmem
      rcases at_eq hf hm hB2 with ⟨a1, a2⟩ | h0
      case inr => omega
      have h4 := hf.2
      rw [Nat.add_mul, Nat.one_mul] at h4
      rw [qL33_0_0, decide_eq_true (show (i : Int) < (l.length : Int) by omega), decide_eq_true (show (0 : Int) ≤ (i : Int) by omega), up1 (by have := hl; omega)]
      simp only [cond_true, Int.toNat_natCast]
      simp only [a1, a2]
      simp only [Int.toNat_natCast]
      rw [decide_eq_true (show (0 : Int) ≤ (((l.getD i ((0 : Int), [])).1.toNat * B : Nat) : Int) by omega), decide_eq_true (show (0 : Int) ≤ (((l.getD i ((0 : Int), [])).1.toNat * B + B : Nat) : Int) by omega),
        decide_eq_true (show (l.getD i ((0 : Int), [])).1.toNat * B ≤ (l.getD i ((0 : Int), [])).1.toNat * B + B by omega), decide_eq_true (show (l.getD i ((0 : Int), [])).1.toNat * B + B ≤ (l.getD i ((0 : Int), [])).1.toNat * B + B by omega),
        decide_eq_true (show (l.getD i ((0 : Int), [])).1.toNat * B + B ≤ out.length by omega), decide_eq_true (show (l.getD i ((0 : Int), [])).1.toNat * B + ((l.getD i ((0 : Int), [])).1.toNat * B + B - (l.getD i ((0 : Int), [])).1.toNat * B) ≤ out.length by omega)]
      simp only [cond_true, Nat.add_sub_cancel_left]
      rw [getD_drop hi ((0 : Int), []), List.foldl_cons]
      exact ih n (i + 1) (wr B out (l.getD i ((0 : Int), []))) (by omega) (by omega) (by rw [wr_length (by rw [h3]; exact hf), h3])
theorem v33_eq {B : Nat} (hB : 1 ≤ B) (hB2 : B ≤ 512) (x : List Int) (hx : Short x) (p l : List Wr) (hl : Short l) (hw : ∀ w ∈ l, Fits B x.length w) : v33 (B : Int) x p l = some (l.foldl (wr B) x) := by
  have h := l33 hB hB2 hx l hl hw x p l.length FU 0 x (by omega) (by have := hl; unfold FU; omega) rfl
  simp only [List.drop_zero, Int.natCast_zero] at h
  unfold v33
  have hx' := hx
  rw [decide_eq_true (show (x.length : Int) ≤ (x.length : Int) by omega), decide_eq_true (show (x.length : Int) ≤ ((2147483648 : Nat) : Int) by omega)]
  have e : List.take (List.length (List.replicate (Int.toNat (↑(List.length x) : Int)) (0 : Int))) x ++ List.drop (List.length x) (List.replicate (Int.toNat (↑(List.length x) : Int)) (0 : Int)) = x := by simp
  simp only [cond_true, e, h, ok_some, val_some]
end Go.Proofs.Ytchgjjgdgbecmaa
set_option linter.unusedVariables false
namespace Go.Proofs.Ytchgjjgdgbecmaa
open Go Go.AM Go.TM Go.Proofs

theorem set_mid {α : Type} (xs ys : List α) (y v : α) : (xs ++ y :: ys).set xs.length v = xs ++ v :: ys := by
  induction xs with
  | nil => rfl
  | cons a xs ih => simp [ih]
theorem take_snoc {α : Type} {l : List α} {i : Nat} (h : i < l.length) (d : α) : l.take (i + 1) = l.take i ++ [l.getD i d] := by
  rw [List.take_succ, List.getElem?_eq_getElem h]
  simp [List.getD, List.getElem?_eq_getElem h]
theorem pt_step {B : Nat} {out : List Int} {w : Wr} {j : Nat} (h1 : j < w.2.length) (h2 : w.1.toNat * B + j < out.length) : (pt B out w j).set (w.1.toNat * B + j) (w.2.getD j 0) = pt B out w (j + 1) := by
  unfold pt
  rw [getD_drop h2 0]
  have hl : (out.take (w.1.toNat * B) ++ w.2.take j).length = w.1.toNat * B + j := by
    simp only [List.length_append, List.length_take]; omega
  have h := set_mid (out.take (w.1.toNat * B) ++ w.2.take j) (out.drop (w.1.toNat * B + j + 1)) (out.getD (w.1.toNat * B + j) 0) (w.2.getD j 0)
  rw [hl] at h
  rw [h, take_snoc h1 0, Nat.add_assoc]
  simp
/-- How many bytes of a pending write reach the disk. -/
def mk (B : Nat) (keep : List Bool) (torn many : Int) (i : Nat) : Nat := cond (decide ((i : Int) = torn)) many.toNat (cond (keep.getD i false) B 0)
/-- What a crash leaves, write by write. -/
def rcL (B : Nat) (keep : List Bool) (torn many : Int) : Nat → List Wr → List Int → List Int
  | _, [], out => out
  | i, w :: r, out => rcL B keep torn many (i + 1) r (pt B out w (mk B keep torn many i))
theorem l17_16 {B mm : Nat} (hB : 1 ≤ B) (hB2 : B ≤ 512) {w : Wr} {out : List Int} (ho : Short out) (hf : Fits B out.length w) (h1 : mm ≤ w.2.length) (h2 : mm ≤ B) (keep : List Bool) (torn many i : Int) (x : List Int) (p : List Wr) (c d : Int) (x9 : List Int) (x10 : List Wr) (x12 : List Wr) :
    ∀ (k n j : Nat), j + k = mm → k < n → L17_16_0 n keep torn many i (mm : Int) (j : Int) (B : Int) x p c d w.1 w.2 x9 x10 (pt B out w j) x12 = some (pt B out w mm) := by
  have ho' := ho
  rcases at_eq hf ho' hB2 with ⟨a1, a2⟩ | h0
  case inr => omega
  have h4 := hf.2
  rw [Nat.add_mul, Nat.one_mul] at h4
  intro k
  induction k with
  | zero =>
    intro n j g1 g2
    cases n with
    | zero => omega
    | succ n =>
      obtain rfl : j = mm := by omega
      rw [qL17_16_0, decide_eq_false (show ¬ ((j : Int) < (j : Int)) by omega)]; rfl
  | succ k ih =>
    intro n j g1 g2
    cases n with
    | zero => omega
    | succ n =>
      have hlen := pt_length (m := j) hf (by omega) (by omega)
      rw [qL17_16_0, decide_eq_true (show (j : Int) < (mm : Int) by omega), decide_eq_true (show (0 : Int) ≤ (j : Int) by omega), decide_eq_true (show (j : Int) < (w.2.length : Int) by omega), up1 (by omega)]
      simp only [cond_true, a1, Int.toNat_natCast]
      have e : IntKind.wrap IntKind.i64 (((w.1.toNat * B : Nat) : Int) + (j : Int)) = ((w.1.toNat * B + j : Nat) : Int) := by rw [wrap_id (by omega) (by omega)]; omega
      simp only [e, Int.toNat_natCast]
      rw [decide_eq_true (show (0 : Int) ≤ ((w.1.toNat * B + j : Nat) : Int) by omega), decide_eq_true (show ((w.1.toNat * B + j : Nat) : Int) < ((pt B out w j).length : Int) by omega), decide_eq_true (show w.1.toNat * B + j < (pt B out w j).length by omega)]
      simp only [cond_true]
      rw [pt_step (by omega) (by omega)]
      exact ih n (j + 1) (by omega) (by omega)
theorem getD_mem {α : Type} {l : List α} {i : Nat} (hi : i < l.length) (d : α) : l.getD i d ∈ l := by
  have : l.getD i d = l[i] := by simp [List.getD, List.getElem?_eq_getElem hi]
  rw [this]; exact List.getElem_mem hi
theorem mk_le {B : Nat} {keep : List Bool} {torn many : Int} {i : Nat} (h1 : 0 ≤ many) (h2 : many ≤ (B : Int)) : mk B keep torn many i ≤ B := by
  unfold mk
  cases decide ((i : Int) = torn) <;> cases keep.getD i false <;> simp only [cond_true, cond_false] <;> omega
theorem l17 {B m : Nat} (hB : 1 ≤ B) (hB2 : B ≤ 512) (hm : m ≤ 2147483648) (p : List Wr) (hp : Short p) (hw : ∀ w ∈ p, Fits B m w ∧ w.2.length = B) (keep : List Bool) (hk : keep.length = p.length) (torn many : Int) (m0 : 0 ≤ many) (m1 : many ≤ (B : Int)) (x : List Int) (c d : Int) (x9 : List Int) (x10 : List Wr) (x12 : List Wr) :
    ∀ (k n i : Nat) (out : List Int), i + k = p.length → k < n → out.length = m → L17_0_0 n keep torn many (i : Int) (B : Int) x p c d x9 x10 out x12 = some (rcL B keep torn many i (p.drop i) out) := by
  intro k
  induction k with
  | zero =>
    intro n i out h1 h2 h3
    cases n with
    | zero => omega
    | succ n =>
      rw [qL17_0_0, decide_eq_false (show ¬ ((i : Int) < (p.length : Int)) by omega), List.drop_of_length_le (show p.length ≤ i by omega)]
      rfl
  | succ k ih =>
    intro n i out h1 h2 h3
    cases n with
    | zero => omega
    | succ n =>
      have hi : i < p.length := by omega
      obtain ⟨hf, hlw⟩ := hw _ (getD_mem hi ((0 : Int), []))
      have hf' : Fits B out.length (p.getD i ((0 : Int), [])) := by rw [h3]; exact hf
      have go : ∀ mm : Nat, mm ≤ B → L17_16_0 FU keep torn many (i : Int) (mm : Int) (0 : Int) (B : Int) x p c d (p.getD i ((0 : Int), [])).1 (p.getD i ((0 : Int), [])).2 x9 x10 out x12 = some (pt B out (p.getD i ((0 : Int), [])) mm) := by
        intro mm hmm
        have := l17_16 (mm := mm) hB hB2 (by show _ ≤ _; omega) hf' (by omega) hmm keep torn many (i : Int) x p c d x9 x10 x12 mm FU 0 (by omega) (by unfold FU; omega)
        rw [pt_zero] at this
        exact this
      have nx : ∀ mm : Nat, mm ≤ B → mm = mk B keep torn many i → L17_0_0 n keep torn many (((i + 1 : Nat) : Int)) (B : Int) x p c d x9 x10 (pt B out (p.getD i ((0 : Int), [])) mm) x12 = some (rcL B keep torn many i (p.drop i) out) := by
        intro mm h4 h5
        rw [ih n (i + 1) _ (by omega) (by omega) (by rw [pt_length hf' h4 (by omega), h3]), getD_drop hi ((0 : Int), []), rcL, h5]
      rw [qL17_0_0, decide_eq_true (show (i : Int) < (p.length : Int) by omega), decide_eq_true (show (0 : Int) ≤ (i : Int) by omega), decide_eq_true (show (i : Int) < (keep.length : Int) by omega), up1 (by have := hp; omega)]
      simp only [cond_true, Int.toNat_natCast]
      have gm := go many.toNat (by omega)
      rw [Int.toNat_of_nonneg m0] at gm
      have gb := go B (Nat.le_refl _)
      have g0 := go 0 (by omega)
      simp only [Int.natCast_zero] at g0
      rw [gm, gb, g0]
      simp only [ok_some, val_some, cond_true]
      by_cases ht : (i : Int) = torn
      · have e : ((i : Int) == torn) = true := by simpa using ht
        rw [e]
        have := nx many.toNat (by omega) (by unfold mk; rw [decide_eq_true ht]; rfl)
        cases keep.getD i false <;> simp only [cond_true, cond_false] <;> exact this
      · have e : ((i : Int) == torn) = false := by simpa using ht
        rw [e]
        cases hkp : keep.getD i false
        · simp only [cond_false]
          exact nx 0 (by omega) (by unfold mk; rw [decide_eq_false ht, hkp]; rfl)
        · simp only [cond_true, cond_false]
          exact nx B (Nat.le_refl _) (by unfold mk; rw [decide_eq_false ht, hkp]; rfl)
/-- The writes of which something reaches the disk. -/
def clL (keep : List Bool) (torn many : Int) : Nat → List Wr → List Wr
  | _, [] => []
  | i, w :: r => cond (decide ((i : Int) = torn)) [(w.1, w.2.take many.toNat)] (cond (keep.getD i false) [w] []) ++ clL keep torn many (i + 1) r
theorem clL_rc {B m : Nat} {keep : List Bool} {torn many : Int} (m1 : many ≤ (B : Int)) : ∀ (p : List Wr) (i : Nat) (out : List Int), (∀ w ∈ p, Fits B m w ∧ w.2.length = B) → out.length = m → (clL keep torn many i p).foldl (wr B) out = rcL B keep torn many i p out
  | [], i, out, _, _ => rfl
  | w :: r, i, out, hw, ho => by
    obtain ⟨hf, hl⟩ := hw w (List.mem_cons_self ..)
    have hf' : Fits B out.length w := by rw [ho]; exact hf
    have hr := fun u hu => hw u (List.mem_cons_of_mem _ hu)
    rw [clL, List.foldl_append, rcL]
    have key : List.foldl (wr B) out (cond (decide ((i : Int) = torn)) [(w.1, w.2.take many.toNat)] (cond (keep.getD i false) [w] [])) = pt B out w (mk B keep torn many i) := by
      unfold mk
      cases decide ((i : Int) = torn)
      · cases keep.getD i false
        · simp only [cond_false, List.foldl_nil, pt_zero]
        · simp only [cond_false, cond_true, List.foldl_cons, List.foldl_nil]
          unfold wr pt
          rw [hl, Nat.min_self]
      · simp only [cond_true, List.foldl_cons, List.foldl_nil]
        unfold wr pt
        simp only [List.length_take, List.take_take]
        rw [Nat.min_eq_right (show many.toNat ≤ B by omega), show min B (min many.toNat w.2.length) = many.toNat by omega]
    rw [key]
    refine clL_rc m1 r (i + 1) _ hr ?_
    have hmk : mk B keep torn many i ≤ B := by
      unfold mk
      cases decide ((i : Int) = torn) <;> cases keep.getD i false <;> simp only [cond_true, cond_false] <;> omega
    rw [pt_length hf' hmk (by omega), ho]
theorem clL_len {keep : List Bool} {torn many : Int} : ∀ (p : List Wr) (i : Nat), (clL keep torn many i p).length ≤ p.length
  | [], i => by simp [clL]
  | w :: r, i => by
    have := clL_len (keep := keep) (torn := torn) (many := many) r (i + 1)
    rw [clL]
    cases decide ((i : Int) = torn) <;> cases keep.getD i false <;> simp <;> omega
theorem clL_fits {B m : Nat} {keep : List Bool} {torn many : Int} : ∀ (p : List Wr) (i : Nat), (∀ w ∈ p, Fits B m w) → ∀ w ∈ clL keep torn many i p, Fits B m w
  | [], i, _, w, hw => by simp [clL] at hw
  | u :: r, i, h, w, hw => by
    rw [clL, List.mem_append] at hw
    rcases hw with hw | hw
    · have hu := h u (List.mem_cons_self ..)
      cases hd : decide ((i : Int) = torn) <;> cases hk : keep.getD i false <;> simp only [hd, hk, cond_true, cond_false, List.mem_singleton, List.not_mem_nil] at hw
      · rw [hw]; exact hu
      · rw [hw]; exact hu
      · rw [hw]; exact hu
    · exact clL_fits r (i + 1) (fun w hw => h w (List.mem_cons_of_mem _ hw)) w hw
theorem l16 {p : List Wr} (hp : p.length ≤ 64) (keep : List Bool) (hk : keep.length = p.length) (torn many : Int) (m0 : 0 ≤ many) (hl : ∀ w ∈ p, many.toNat ≤ w.2.length) (a : Int) (x : List Int) (q : List Wr) (e : Int) (x11 : List Int) (x12 : List Wr) :
    ∀ (k n i : Nat) (acc : List Wr), i + k = p.length → k < n → acc.length ≤ i → L16_0_0 n keep torn many p (p.length : Int) (i : Int) a x q e acc x11 x12 = some (acc ++ clL keep torn many i (p.drop i)) := by
  intro k
  induction k with
  | zero =>
    intro n i acc h1 h2 h3
    cases n with
    | zero => omega
    | succ n =>
      rw [qL16_0_0, decide_eq_false (show ¬ ((i : Int) < (p.length : Int)) by omega), List.drop_of_length_le (show p.length ≤ i by omega)]
      simp [clL]
  | succ k ih =>
    intro n i acc h1 h2 h3
    cases n with
    | zero => omega
    | succ n =>
      have hi : i < p.length := by omega
      have hlw := hl _ (getD_mem hi ((0 : Int), []))
      rw [qL16_0_0, decide_eq_true (show (i : Int) < (p.length : Int) by omega), decide_eq_true (show (0 : Int) ≤ (i : Int) by omega), decide_eq_true (show (i : Int) < (keep.length : Int) by omega), up1 (by omega)]
      simp only [cond_true, Int.toNat_natCast]
      rw [decide_eq_true m0, decide_eq_true (Nat.le_refl many.toNat), decide_eq_true hlw, getD_drop hi ((0 : Int), []), clL]
      have hle : ∀ y : Wr, decide (acc.length + [y].length ≤ 2147483648) = true := fun y => by rw [decide_eq_true_iff]; simp; omega
      simp only [cond_true, List.drop_zero]
      by_cases ht : (i : Int) = torn
      · have e1 : ((i : Int) == torn) = true := by simpa using ht
        rw [e1, decide_eq_true ht, hle]
        simp only [cond_true]
        rw [ih n (i + 1) _ (by omega) (by omega) (by simp; omega), List.append_assoc]
      · have e1 : ((i : Int) == torn) = false := by simpa using ht
        rw [e1, decide_eq_false ht]
        simp only [cond_false]
        cases keep.getD i false
        · simp only [cond_false, List.nil_append]
          exact ih n (i + 1) _ (by omega) (by omega) (by omega)
        · rw [hle]
          simp only [cond_true]
          rw [ih n (i + 1) _ (by omega) (by omega) (by simp; omega), List.append_assoc]
end Go.Proofs.Ytchgjjgdgbecmaa
set_option linter.unusedVariables false
namespace Go.Proofs.Ytchgjjgdgbecmaa
open Go Go.AM Go.TM Go.Proofs

abbrev R4 := Int × List Int × List Wr × Int
def bad : R4 := (0, [], [], 1)
theorem Val.nat {b : Int} {x : List Int} {p : List Wr} (h : Val b x p) : ∃ B : Nat, b = (B : Int) ∧ 1 ≤ B ∧ B ≤ 512 ∧ x.length ≤ 65536 ∧ p.length ≤ 64 ∧ ∀ w ∈ p, Fits B x.length w ∧ w.2.length = B := by
  obtain ⟨b1, b2, x1, x2, md, p1, ws⟩ := h
  obtain ⟨B, rfl⟩ := Int.eq_ofNat_of_zero_le (show 0 ≤ b by omega)
  refine ⟨B, rfl, by omega, by omega, x2, p1, fun w hw => ?_⟩
  obtain ⟨h1, h2, h3⟩ := ws w hw
  exact ⟨fits_of (by omega) h1 h2, by omega⟩
def crashV (b : Int) (x : List Int) (p : List Wr) (keep : List Bool) (torn many : Int) : R4 :=
  cond (valid b x p && decide (keep.length = p.length ∧ -1 ≤ torn ∧ torn < (keep.length : Int) ∧ 0 ≤ many ∧ many ≤ b)) (b, rcL b.toNat keep torn many 0 p x, [], 0) bad
theorem v17_eq (b : Int) (x : List Int) (p : List Wr) (keep : List Bool) (torn many : Int) : v17 b x p keep torn many = some (crashV b x p keep torn many) := by
  unfold v17 crashV bad
  simp only [v25_eq, ok_some, val_some, cond_true, cond_nb]
  cases hv : valid b x p
  · rfl
  obtain ⟨B, rfl, hB, hB2, hx, hp, hw⟩ := (valid_iff.1 hv).nat
  simp only [cond_true, Bool.true_and]
  generalize hd : decide (keep.length = p.length ∧ -1 ≤ torn ∧ torn < (keep.length : Int) ∧ 0 ≤ many ∧ many ≤ (B : Int)) = v
  have no : ¬ (keep.length = p.length ∧ -1 ≤ torn ∧ torn < (keep.length : Int) ∧ 0 ≤ many ∧ many ≤ (B : Int)) → v = false := fun h => by rw [← hd]; exact decide_eq_false h
  have yes : (keep.length = p.length ∧ -1 ≤ torn ∧ torn < (keep.length : Int) ∧ 0 ≤ many ∧ many ≤ (B : Int)) → v = true := fun h => by rw [← hd]; exact decide_eq_true h
  clear hd
  by_cases h1 : keep.length = p.length
  · rw [show ((keep.length : Int) != (p.length : Int)) = false by simp [h1], cond_false]
    by_cases h2 : -1 ≤ torn
    · rw [decide_eq_false (show ¬ torn < -1 by omega), cond_false]
      by_cases h3 : torn < (keep.length : Int)
      · rw [decide_eq_false (show ¬ torn ≥ (keep.length : Int) by omega), cond_false]
        by_cases h4 : 0 ≤ many
        · rw [decide_eq_false (show ¬ many < 0 by omega), cond_false]
          by_cases h5 : many ≤ (B : Int)
          · rw [decide_eq_false (show ¬ many > (B : Int) by omega), cond_false, yes ⟨h1, h2, h3, h4, h5⟩]
            have := l17 hB hB2 (show x.length ≤ 2147483648 by omega) p (by show _ ≤ _; omega) hw keep h1 torn many h4 h5 x 0 (B : Int) [] [] [] p.length FU 0 x (by omega) (by unfold FU; omega) rfl
            simp only [Int.natCast_zero, List.drop_zero] at this
            rw [this, decide_eq_true (show x.length ≤ 2147483648 by omega)]
            rfl
          · rw [decide_eq_true (show many > (B : Int) by omega), no (fun h => h5 h.2.2.2.2)]; rfl
        · rw [decide_eq_true (show many < 0 by omega), no (fun h => h4 h.2.2.2.1)]; rfl
      · rw [decide_eq_true (show torn ≥ (keep.length : Int) by omega), no (fun h => h3 h.2.2.1)]; rfl
    · rw [decide_eq_true (show torn < -1 by omega), no (fun h => h2 h.2.1)]; rfl
  · rw [show ((keep.length : Int) != (p.length : Int)) = true by simp; omega, no (fun h => h1 h.1)]; rfl
theorem v16_eq (b : Int) (x : List Int) (p : List Wr) (keep : List Bool) (torn many : Int) : v16 b x p keep torn many = some (crashV b x p keep torn many) := by
  unfold v16 crashV bad
  simp only [v24_eq, ok_some, val_some, cond_true, cond_nb]
  cases hv : valid b x p
  · rfl
  obtain ⟨B, rfl, hB, hB2, hx, hp, hw⟩ := (valid_iff.1 hv).nat
  simp only [cond_true, Bool.true_and]
  generalize hd : decide (keep.length = p.length ∧ -1 ≤ torn ∧ torn < (keep.length : Int) ∧ 0 ≤ many ∧ many ≤ (B : Int)) = v
  have no : ¬ (keep.length = p.length ∧ -1 ≤ torn ∧ torn < (keep.length : Int) ∧ 0 ≤ many ∧ many ≤ (B : Int)) → v = false := fun h => by rw [← hd]; exact decide_eq_false h
  have yes : (keep.length = p.length ∧ -1 ≤ torn ∧ torn < (keep.length : Int) ∧ 0 ≤ many ∧ many ≤ (B : Int)) → v = true := fun h => by rw [← hd]; exact decide_eq_true h
  clear hd
  by_cases h1 : keep.length = p.length
  · rw [show ((keep.length : Int) != (p.length : Int)) = false by simp [h1], cond_false]
    by_cases h2 : -1 ≤ torn
    · rw [decide_eq_false (show ¬ torn < -1 by omega), cond_false]
      by_cases h3 : torn < (keep.length : Int)
      · rw [decide_eq_false (show ¬ torn ≥ (keep.length : Int) by omega), cond_false]
        by_cases h4 : 0 ≤ many
        · rw [decide_eq_false (show ¬ many < 0 by omega), cond_false]
          by_cases h5 : many ≤ (B : Int)
          · rw [decide_eq_false (show ¬ many > (B : Int) by omega), cond_false, yes ⟨h1, h2, h3, h4, h5⟩]
            have h := l16 hp keep h1 torn many h4 (fun w hw' => by have := (hw w hw').2; omega) (B : Int) x p 0 [] [] p.length FU 0 [] (by omega) (by unfold FU; omega) (by simp)
            simp only [Int.natCast_zero, List.drop_zero, List.nil_append] at h
            have g := v33_eq hB hB2 x (by show _ ≤ _; omega) p (clL keep torn many 0 p) (by have := clL_len (keep := keep) (torn := torn) (many := many) p 0; show _ ≤ _; omega) (clL_fits p 0 fun w hw' => (hw w hw').1)
            rw [h]
            simp only [ok_some, val_some, cond_true]
            rw [g, clL_rc h5 p 0 x hw rfl]
            rfl
          · rw [decide_eq_true (show many > (B : Int) by omega), no (fun h => h5 h.2.2.2.2)]; rfl
        · rw [decide_eq_true (show many < 0 by omega), no (fun h => h4 h.2.2.2.1)]; rfl
      · rw [decide_eq_true (show torn ≥ (keep.length : Int) by omega), no (fun h => h3 h.2.2.1)]; rfl
    · rw [decide_eq_true (show torn < -1 by omega), no (fun h => h2 h.2.1)]; rfl
  · rw [show ((keep.length : Int) != (p.length : Int)) = true by simp; omega, no (fun h => h1 h.1)]; rfl
/-- All writes are done. -/
def allB (b : Int) (x : List Int) (p : List Wr) : List Int := p.foldl (wr b.toNat) x
def syncV (b : Int) (x : List Int) (p : List Wr) : R4 := cond (valid b x p) (b, allB b x p, [], 0) bad
theorem v33_all {b : Int} {x : List Int} {p : List Wr} (h : valid b x p = true) : v33 b x p p = some (allB b x p) := by
  obtain ⟨B, rfl, hB, hB2, hx, hp, hw⟩ := (valid_iff.1 h).nat
  exact v33_eq hB hB2 x (by show _ ≤ _; omega) p p (by show _ ≤ _; omega) fun w hw' => (hw w hw').1
theorem v14_eq (b : Int) (x : List Int) (p : List Wr) : v14 b x p = some (syncV b x p) := by
  unfold v14 syncV bad
  simp only [v24_eq, ok_some, val_some, cond_true, cond_nb]
  cases hv : valid b x p
  · rfl
  · rw [v33_all hv]; rfl
theorem l15 (a : Int) (x : List Int) (q : List Wr) (e : Int) (x6 : List Int) (x7 : List Wr) (m : Nat) (hm : m ≤ 2147483648) : ∀ (k n i : Nat), i + k = m → k < n → L15_0_0 n (i : Int) a x q e (List.replicate i true ++ List.replicate k false) x6 x7 = some (List.replicate m true) := by
  intro k
  induction k with
  | zero =>
    intro n i h1 h2
    cases n with
    | zero => omega
    | succ n =>
      obtain rfl : i = m := by omega
      rw [qL15_0_0]
      simp
  | succ k ih =>
    intro n i h1 h2
    cases n with
    | zero => omega
    | succ n =>
      rw [qL15_0_0]
      have hl : (List.replicate i true ++ List.replicate (k + 1) false).length = m := by simp; omega
      rw [hl, decide_eq_true (show (i : Int) < (m : Int) by omega), decide_eq_true (show (0 : Int) ≤ (i : Int) by omega), decide_eq_true (show Int.toNat (i : Int) < m by simp; omega), up1 (by omega)]
      simp only [cond_true, Int.toNat_natCast]
      have hs : (List.replicate i true ++ List.replicate (k + 1) false).set i true = List.replicate (i + 1) true ++ List.replicate k false := by
        have h := set_mid (List.replicate i true) (List.replicate k false) false true
        rw [List.length_replicate] at h
        rw [List.replicate_succ, h, List.replicate_succ' (n := i)]
        simp
      rw [hs]
      exact ih n (i + 1) (by omega) (by omega)
theorem getD_rep {n j : Nat} (h : j < n) : (List.replicate n true).getD j false = true := by simp [List.getD, List.getElem?_replicate, h]
theorem rcL_all {B : Nat} {keep : List Bool} : ∀ (p : List Wr) (i : Nat) (out : List Int), (∀ j, i ≤ j → j < i + p.length → keep.getD j false = true) → (∀ w ∈ p, w.2.length = B) → rcL B keep (-1) 0 i p out = p.foldl (wr B) out
  | [], i, out, _, _ => rfl
  | w :: r, i, out, hk, hw => by
    rw [rcL, List.foldl_cons]
    have e : pt B out w (mk B keep (-1) 0 i) = wr B out w := by
      unfold mk
      rw [decide_eq_false (show ¬ ((i : Int) = -1) by omega), hk i (Nat.le_refl _) (by simp)]
      unfold pt wr
      simp only [cond_true, cond_false]
      rw [hw w (List.mem_cons_self ..), Nat.min_self]
    rw [e]
    exact rcL_all r (i + 1) _ (fun j h1 h2 => hk j (by omega) (by simp; omega)) fun u hu => hw u (List.mem_cons_of_mem _ hu)
theorem crash_all (b : Int) (x : List Int) (p : List Wr) : crashV b x p (List.replicate p.length true) (-1) 0 = syncV b x p := by
  unfold crashV syncV
  cases hv : valid b x p
  · rfl
  have h := valid_iff.1 hv
  obtain ⟨B, rfl, hB, hB2, hx, hp, hw⟩ := h.nat
  rw [decide_eq_true (show ((List.replicate p.length true).length = p.length ∧ (-1 : Int) ≤ -1 ∧ (-1 : Int) < ((List.replicate p.length true).length : Int) ∧ (0 : Int) ≤ 0 ∧ (0 : Int) ≤ (B : Int)) by
    refine ⟨by simp, by omega, by omega, by omega, by omega⟩)]
  simp only [Bool.and_self, cond_true]
  unfold allB
  rw [rcL_all p 0 x (fun j h1 h2 => getD_rep (by omega)) (fun w hw' => by simpa using (hw w hw').2)]
theorem v15_eq (b : Int) (x : List Int) (p : List Wr) (hp : Short p) : v15 b x p = some (syncV b x p) := by
  have hp' := hp
  unfold v15
  have h := l15 b x p 0 [] [] p.length hp' p.length FU 0 (by omega) (by unfold FU; omega)
  simp only [Int.natCast_zero, List.replicate_zero, List.nil_append] at h
  rw [decide_eq_true (show (p.length : Int) ≤ (p.length : Int) by omega), decide_eq_true (show (p.length : Int) ≤ ((2147483648 : Nat) : Int) by omega)]
  simp only [cond_true, Int.toNat_natCast, h, ok_some, val_some, v17_eq, crash_all]
/-- A block's bytes. -/
def blkB (B : Nat) (x : List Int) (k : Int) : List Int := (x.take (k.toNat * B + B)).drop (k.toNat * B)
def readV (b : Int) (x : List Int) (p : List Wr) (k : Int) : List Int × Int := cond (valid b x p && decide (0 ≤ k ∧ k < (x.length : Int) / b)) (blkB b.toNat (allB b x p) k, 0) ([], 1)
theorem foldl_len {B m : Nat} : ∀ (l : List Wr) (x : List Int), (∀ w ∈ l, Fits B m w) → x.length = m → (l.foldl (wr B) x).length = m
  | [], x, _, h => h
  | w :: r, x, hw, h => foldl_len r _ (fun u hu => hw u (List.mem_cons_of_mem _ hu)) (by rw [wr_length (by rw [h]; exact hw w (List.mem_cons_self ..)), h])
theorem allB_len {b : Int} {x : List Int} {p : List Wr} (h : valid b x p = true) : (allB b x p).length = x.length := by
  obtain ⟨B, rfl, hB, hB2, hx, hp, hw⟩ := (valid_iff.1 h).nat
  exact foldl_len p x (fun w hw' => by simpa using (hw w hw').1) rfl
theorem blk_facts {B m : Nat} {k : Int} (hB : 1 ≤ B) (hB2 : B ≤ 512) (hm : m ≤ 65536) (h1 : 0 ≤ k) (h2 : k < (m : Int) / (B : Int)) :
    k.toNat * B + B ≤ m ∧ IntKind.wrap IntKind.i64 (k * (B : Int)) = ((k.toNat * B : Nat) : Int) ∧ IntKind.wrap IntKind.i64 (IntKind.wrap IntKind.i64 (k + 1) * (B : Int)) = ((k.toNat * B + B : Nat) : Int) := by
  have hf := fits_of (w := (k, [])) hB h1 h2
  have h4 := hf.2
  rw [Nat.add_mul, Nat.one_mul] at h4
  rcases at_eq hf (by omega) hB2 with h | h
  · exact ⟨h4, h⟩
  · omega
theorem v18_eq (b : Int) (x : List Int) (p : List Wr) (k : Int) : v18 b x p k = some (readV b x p k) := by
  unfold v18 readV
  simp only [v24_eq, ok_some, val_some, cond_true, cond_nb]
  cases hv : valid b x p
  · rfl
  have hal := allB_len hv
  have hall := v33_all hv
  obtain ⟨B, rfl, hB, hB2, hx, hp, hw⟩ := (valid_iff.1 hv).nat
  simp only [cond_true, Bool.true_and, v30_eq (p := p) (k := k) (show Short x by show _ ≤ _; omega) (show 1 ≤ (B : Int) by omega), ok_some, val_some]
  by_cases h : 0 ≤ k ∧ k < (x.length : Int) / (B : Int)
  · obtain ⟨f1, f2, f3⟩ := blk_facts hB hB2 hx h.1 h.2
    rw [decide_eq_true h]
    simp only [cond_true, hall, ok_some, val_some, f2, f3, Int.toNat_natCast]
    rw [decide_eq_true (show (0 : Int) ≤ ((k.toNat * B : Nat) : Int) by omega), decide_eq_true (show (0 : Int) ≤ ((k.toNat * B + B : Nat) : Int) by omega), decide_eq_true (show k.toNat * B ≤ k.toNat * B + B by omega), decide_eq_true (show k.toNat * B + B ≤ k.toNat * B + B by omega),
      decide_eq_true (show k.toNat * B + B ≤ (allB (B : Int) x p).length by omega), decide_eq_true (show List.length (List.drop (k.toNat * B) (List.take (k.toNat * B + B) (allB (B : Int) x p))) ≤ 2147483648 by simp; omega)]
    rfl
  · rw [decide_eq_false h]; rfl
theorem v19_eq (b : Int) (x : List Int) (p : List Wr) (k : Int) (hs : Short p) : v19 b x p k = some (readV b x p k) := by
  unfold v19 readV
  simp only [v15_eq b x p hs, ok_some, val_some, cond_true]
  unfold syncV bad
  cases hv : valid b x p
  · rfl
  have hal := allB_len hv
  obtain ⟨B, rfl, hB, hB2, hx, hp, hw⟩ := (valid_iff.1 hv).nat
  simp only [cond_true, Bool.true_and, hal]
  rw [show ((0 : Int) != 0) = false from rfl, cond_false, tdiv_len, decide_eq_true (show (B : Int) ≠ 0 by omega), cond_true]
  have hd := div_bd (n := x.length) (b := (B : Int)) (by omega) (by omega)
  rw [wrap_id (x := (x.length : Int) / (B : Int)) (by omega) (by omega)]
  by_cases h1 : 0 ≤ k
  · rw [decide_eq_false (show ¬ k < 0 by omega), cond_false]
    by_cases h2 : k < (x.length : Int) / (B : Int)
    · obtain ⟨f1, f2, f3⟩ := blk_facts hB hB2 hx h1 h2
      rw [decide_eq_false (show ¬ k ≥ (x.length : Int) / (B : Int) by omega), cond_false, decide_eq_true (show 0 ≤ k ∧ k < (x.length : Int) / (B : Int) from ⟨h1, h2⟩)]
      simp only [f2, f3, Int.toNat_natCast]
      rw [decide_eq_true (show (0 : Int) ≤ ((k.toNat * B : Nat) : Int) by omega), decide_eq_true (show (0 : Int) ≤ ((k.toNat * B + B : Nat) : Int) by omega), decide_eq_true (show k.toNat * B ≤ k.toNat * B + B by omega), decide_eq_true (show k.toNat * B + B ≤ k.toNat * B + B by omega),
        decide_eq_true (show k.toNat * B + B ≤ x.length by omega), decide_eq_true (show List.length (List.drop (k.toNat * B) (List.take (k.toNat * B + B) (allB (B : Int) x p))) ≤ 2147483648 by simp; omega)]
      rfl
    · rw [decide_eq_true (show k ≥ (x.length : Int) / (B : Int) by omega), decide_eq_false (fun h : 0 ≤ k ∧ k < (x.length : Int) / (B : Int) => h2 h.2)]; rfl
  · rw [decide_eq_true (show k < 0 by omega), decide_eq_false (fun h : 0 ≤ k ∧ k < (x.length : Int) / (B : Int) => h1 h.1)]; rfl
end Go.Proofs.Ytchgjjgdgbecmaa
set_option linter.unusedVariables false
namespace Go.Proofs.Ytchgjjgdgbecmaa
open Go Go.AM Go.TM Go.Proofs

theorem l12_8 (q : List Wr) (hq : Short q) (hw : ∀ w ∈ q, Short w.2) (x2 x3 : Int) (x5 x7 : List Int) (x8 : List Wr) : ∀ (k n i : Nat) (acc : List Wr), i + k = q.length → k < n → acc.length = i → L12_8_0 n (q.length : Int) (i : Int) x2 x3 q x5 acc x7 x8 = some (acc ++ q.drop i) := by
  have hq' := hq
  intro k
  induction k with
  | zero =>
    intro n i acc h1 h2 h3
    cases n with
    | zero => omega
    | succ n =>
      rw [qL12_8_0, decide_eq_false (show ¬ ((i : Int) < (q.length : Int)) by omega), List.drop_of_length_le (show q.length ≤ i by omega)]
      simp
  | succ k ih =>
    intro n i acc h1 h2 h3
    cases n with
    | zero => omega
    | succ n =>
      have hi : i < q.length := by omega
      have hs := hw _ (getD_mem hi ((0 : Int), []))
      rw [qL12_8_0, decide_eq_true (show (i : Int) < (q.length : Int) by omega), decide_eq_true (show (0 : Int) ≤ (i : Int) by omega), up1 (by omega)]
      simp only [cond_true, Int.toNat_natCast]
      rw [decide_eq_true (show i < q.length from hi), decide_eq_true hs, getD_drop hi ((0 : Int), [])]
      have hle : ∀ y : Wr, decide (acc.length + [y].length ≤ 2147483648) = true := fun y => by rw [decide_eq_true_iff]; simp; omega
      rw [hle]
      simp only [cond_true]
      rw [ih n (i + 1) _ (by omega) (by omega) (by simp; omega), List.append_assoc]
      rfl
theorem l27 (q : List Wr) (hq : Short q) (hw : ∀ w ∈ q, Short w.2) (a : Int) (x : List Int) (x4 x5 : Int) (x6 : List Int) (x7 : List Wr) (x8 : List Int) : ∀ (k n i : Nat) (acc : List Wr), i + k = q.length → k < n → acc.length = i → L27_0_0 n (i : Int) a x q x4 x5 x6 x7 x8 acc = some (acc ++ q.drop i) := by
  have hq' := hq
  intro k
  induction k with
  | zero =>
    intro n i acc h1 h2 h3
    cases n with
    | zero => omega
    | succ n =>
      rw [qL27_0_0, decide_eq_false (show ¬ ((i : Int) < (q.length : Int)) by omega), List.drop_of_length_le (show q.length ≤ i by omega)]
      simp
  | succ k ih =>
    intro n i acc h1 h2 h3
    cases n with
    | zero => omega
    | succ n =>
      have hi : i < q.length := by omega
      have hs := hw _ (getD_mem hi ((0 : Int), []))
      rw [qL27_0_0, decide_eq_true (show (i : Int) < (q.length : Int) by omega), decide_eq_true (show (0 : Int) ≤ (i : Int) by omega), up1 (by omega)]
      simp only [cond_true, Int.toNat_natCast]
      rw [decide_eq_true hs, getD_drop hi ((0 : Int), [])]
      have hle : ∀ y : Wr, decide (acc.length + [y].length ≤ 2147483648) = true := fun y => by rw [decide_eq_true_iff]; simp; omega
      rw [hle]
      simp only [cond_true]
      rw [ih n (i + 1) _ (by omega) (by omega) (by simp; omega), List.append_assoc]
      rfl
theorem v27_eq (b : Int) (x : List Int) (p : List Wr) (hx : Short x) (hp : Short p) (hw : ∀ w ∈ p, Short w.2) : v27 b x p = some p := by
  have h := l27 p hp hw b x 0 b [] [] x p.length FU 0 [] (by omega) (by have := hp; unfold FU; omega) rfl
  simp only [Int.natCast_zero, List.drop_zero, List.nil_append] at h
  unfold v27
  rw [decide_eq_true hx, h]; rfl
def writeV (b : Int) (x : List Int) (p : List Wr) (k : Int) (d : List Int) : R4 :=
  cond (valid b x p && decide (0 ≤ k ∧ k < (x.length : Int) / b ∧ (d.length : Int) = b)) (cond (decide (64 ≤ p.length)) (0, [], [], 10) (b, x, p ++ [(k, d)], 0)) bad
theorem v12_eq (b : Int) (x : List Int) (p : List Wr) (k : Int) (d : List Int) : v12 b x p k d = some (writeV b x p k d) := by
  unfold v12 writeV bad
  simp only [v24_eq, ok_some, val_some, cond_true, cond_nb]
  cases hv : valid b x p
  · rfl
  obtain ⟨B, rfl, hB, hB2, hx, hp, hw⟩ := (valid_iff.1 hv).nat
  simp only [cond_true, Bool.true_and, v30_eq (p := p) (k := k) (show Short x by show _ ≤ _; omega) (show 1 ≤ (B : Int) by omega), ok_some, val_some]
  generalize hd : decide (0 ≤ k ∧ k < (x.length : Int) / (B : Int) ∧ (d.length : Int) = (B : Int)) = v
  have no : ¬ (0 ≤ k ∧ k < (x.length : Int) / (B : Int) ∧ (d.length : Int) = (B : Int)) → v = false := fun h => by rw [← hd]; exact decide_eq_false h
  have yes : (0 ≤ k ∧ k < (x.length : Int) / (B : Int) ∧ (d.length : Int) = (B : Int)) → v = true := fun h => by rw [← hd]; exact decide_eq_true h
  clear hd
  by_cases h1 : 0 ≤ k ∧ k < (x.length : Int) / (B : Int)
  · rw [decide_eq_true h1, cond_true]
    by_cases h2 : (d.length : Int) = (B : Int)
    · rw [show ((d.length : Int) != (B : Int)) = false by simpa using h2, cond_false, yes ⟨h1.1, h1.2, h2⟩, cond_true]
      by_cases h3 : 64 ≤ p.length
      · rw [decide_eq_true (show (p.length : Int) ≥ 64 by omega), decide_eq_true h3]; rfl
      · rw [decide_eq_false (show ¬ (p.length : Int) ≥ 64 by omega), decide_eq_false h3]
        have hl : (p ++ [(k, d)]).length = p.length + 1 := by simp
        have h := l12_8 (p ++ [(k, d)]) (by show _ ≤ _; omega) (fun w hw' => by
          rcases List.mem_append.1 hw' with h | h
          · have := (hw w h).2; show _ ≤ _; omega
          · simp only [List.mem_singleton] at h; rw [h]; show d.length ≤ _; omega) 0 (B : Int) x [] [] (p.length + 1) FU 0 [] (by omega) (by unfold FU; omega) rfl
        simp only [Int.natCast_zero, List.drop_zero, List.nil_append] at h
        rw [decide_eq_true (show x.length ≤ 2147483648 by omega), decide_eq_true (show p.length ≤ 2147483648 by omega), decide_eq_true (show p.length + [(k, d)].length ≤ 2147483648 by simp; omega), h]
        rfl
    · rw [show ((d.length : Int) != (B : Int)) = true by simpa using h2, no (fun h => h2 h.2.2)]; rfl
  · rw [decide_eq_false h1, no (fun h => h1 ⟨h.1, h.2.1⟩)]; rfl
theorem v13_eq (b : Int) (x : List Int) (p : List Wr) (k : Int) (d : List Int) : v13 b x p k d = some (writeV b x p k d) := by
  unfold v13 writeV bad
  simp only [v25_eq, ok_some, val_some, cond_true, cond_nb]
  cases hv : valid b x p
  · rfl
  obtain ⟨B, rfl, hB, hB2, hx, hp, hw⟩ := (valid_iff.1 hv).nat
  have hdv := div_bd (n := x.length) (b := (B : Int)) (by omega) (by omega)
  simp only [cond_true, Bool.true_and]
  rw [tdiv_len, wrap_id (x := (x.length : Int) / (B : Int)) (by omega) (by omega), decide_eq_true (show (B : Int) ≠ 0 by omega), cond_true]
  generalize hd : decide (0 ≤ k ∧ k < (x.length : Int) / (B : Int) ∧ (d.length : Int) = (B : Int)) = v
  have no : ¬ (0 ≤ k ∧ k < (x.length : Int) / (B : Int) ∧ (d.length : Int) = (B : Int)) → v = false := fun h => by rw [← hd]; exact decide_eq_false h
  have yes : (0 ≤ k ∧ k < (x.length : Int) / (B : Int) ∧ (d.length : Int) = (B : Int)) → v = true := fun h => by rw [← hd]; exact decide_eq_true h
  clear hd
  by_cases h1 : 0 ≤ k
  · rw [decide_eq_false (show ¬ k < 0 by omega), cond_false]
    by_cases h1' : k < (x.length : Int) / (B : Int)
    · rw [decide_eq_false (show ¬ k ≥ (x.length : Int) / (B : Int) by omega), cond_false]
      by_cases h2 : (d.length : Int) = (B : Int)
      · rw [show ((d.length : Int) != (B : Int)) = false by simpa using h2, cond_false, yes ⟨h1, h1', h2⟩, cond_true]
        by_cases h3 : 64 ≤ p.length
        · rw [decide_eq_true (show (p.length : Int) ≥ 64 by omega), decide_eq_true h3]; rfl
        · rw [decide_eq_false (show ¬ (p.length : Int) ≥ 64 by omega), decide_eq_false h3, v27_eq _ _ _ (by show _ ≤ _; omega) (by show _ ≤ _; omega) (fun w hw' => by have := (hw w hw').2; show _ ≤ _; omega)]
          simp only [ok_some, cond_true, cond_false]
          rw [decide_eq_true (show d.length ≤ 2147483648 by omega), cond_true]
          change cond (decide (p.length + [(k, d)].length ≤ 2147483648)) (some ((B : Int), x, p ++ [(k, d)], (0 : Int))) none = _
          rw [decide_eq_true (show p.length + [(k, d)].length ≤ 2147483648 by simp; omega)]
          rfl
      · rw [show ((d.length : Int) != (B : Int)) = true by simpa using h2, no (fun h => h2 h.2.2)]; rfl
    · rw [decide_eq_true (show k ≥ (x.length : Int) / (B : Int) by omega), no (fun h => h1' h.2.1)]; rfl
  · rw [decide_eq_true (show k < 0 by omega), no (fun h => h1 h.1)]; rfl
def newV (a c : Int) : R4 := cond (decide (1 ≤ a ∧ a ≤ 512 ∧ 1 ≤ c ∧ c ≤ 65536 / a)) (a, List.replicate (a * c).toNat 0, [], 0) bad
theorem v20_eq (a c : Int) : v20 a c = some (newV a c) := by
  unfold v20 newV bad
  generalize hd : decide (1 ≤ a ∧ a ≤ 512 ∧ 1 ≤ c ∧ c ≤ 65536 / a) = v
  have no : ¬ (1 ≤ a ∧ a ≤ 512 ∧ 1 ≤ c ∧ c ≤ 65536 / a) → v = false := fun h => by rw [← hd]; exact decide_eq_false h
  have yes : (1 ≤ a ∧ a ≤ 512 ∧ 1 ≤ c ∧ c ≤ 65536 / a) → v = true := fun h => by rw [← hd]; exact decide_eq_true h
  clear hd
  by_cases h1 : 1 ≤ a
  · rw [decide_eq_false (show ¬ a < 1 by omega), cond_false]
    by_cases h2 : a ≤ 512
    · rw [decide_eq_false (show ¬ a > 512 by omega), cond_false]
      by_cases h3 : 1 ≤ c
      · have e0 : Int.tdiv 65536 a = 65536 / a := Int.tdiv_eq_ediv_of_nonneg (by omega)
        have e1 := Int.ediv_nonneg (show (0 : Int) ≤ 65536 by omega) (show 0 ≤ a by omega)
        have e2 := Int.ediv_le_self a (show (0 : Int) ≤ 65536 by omega)
        rw [decide_eq_false (show ¬ c < 1 by omega), cond_false, decide_eq_true (show a ≠ 0 by omega), cond_true, e0, wrap_id (x := 65536 / a) (by omega) (by omega)]
        by_cases h4 : c ≤ 65536 / a
        · have e3 := (Int.le_ediv_iff_mul_le (show 0 < a by omega)).1 h4
          have e4 : 0 ≤ a * c := Int.mul_nonneg (by omega) (by omega)
          rw [Int.mul_comm] at e3
          rw [decide_eq_false (show ¬ c > 65536 / a by omega), cond_false, yes ⟨h1, h2, h3, h4⟩, wrap_id (x := a * c) (by omega) (by omega), decide_eq_true e4, decide_eq_true (Int.le_refl (a * c)), decide_eq_true (show a * c ≤ ((2147483648 : Nat) : Int) by omega)]
          rfl
        · rw [decide_eq_true (show c > 65536 / a by omega), no (fun h => h4 h.2.2.2)]; rfl
      · rw [decide_eq_true (show c < 1 by omega), no (fun h => h3 h.2.2.1)]; rfl
    · rw [decide_eq_true (show a > 512 by omega), no (fun h => h2 h.2.1)]; rfl
  · rw [decide_eq_true (show a < 1 by omega), no (fun h => h1 h.1)]; rfl
theorem v21_eq (a c : Int) : v21 a c = some (newV a c) := v20_eq a c
end Go.Proofs.Ytchgjjgdgbecmaa
set_option linter.unusedVariables false
namespace Go.Proofs.Ytchgjjgdgbecmaa
open Go Go.AM Go.TM Go.Proofs
/-- A disk that is small enough. -/
structure Few (x : List Int) (p : List Wr) : Prop where
  ws : ∀ w ∈ p, w.2.length ≤ 600
  x1 : x.length ≤ 4000
  p1 : p.length ≤ 80
theorem few_iff {x : List Int} {p : List Wr} : few x p = true ↔ Few x p := by
  unfold few
  rw [Bool.and_eq_true, Bool.and_eq_true, decide_eq_true_iff, decide_eq_true_iff, List.all_eq_true]
  constructor
  · rintro ⟨⟨h1, h2⟩, h3⟩; exact ⟨fun w hw => of_decide_eq_true (h1 w hw), h2, h3⟩
  · rintro ⟨h1, h2, h3⟩; exact ⟨⟨fun w hw => decide_eq_true (h1 w hw), h2⟩, h3⟩
theorem same_self (a : R4) (h1 : Short a.2.1) (h2 : Short a.2.2.1) (h3 : ∀ w ∈ a.2.2.1, Short w.2) : v22 a.1 a.2.1 a.2.2.1 a.1 a.2.1 a.2.2.1 = some true := by
  rw [v22_eq _ _ _ _ _ _ h1 h2 h3]; simp
theorem rcL_len {B m : Nat} {keep : List Bool} {torn many : Int} (h1 : many ≤ (B : Int)) : ∀ (p : List Wr) (i : Nat) (x : List Int), (∀ w ∈ p, Fits B m w ∧ w.2.length = B) → x.length = m → (rcL B keep torn many i p x).length = m
  | [], i, x, _, h => h
  | w :: r, i, x, hw, h => by
    obtain ⟨hf, hl⟩ := hw w (List.mem_cons_self ..)
    have hmk : mk B keep torn many i ≤ B := by
      unfold mk
      cases decide ((i : Int) = torn) <;> cases keep.getD i false <;> simp only [cond_true, cond_false] <;> omega
    exact rcL_len h1 r (i + 1) _ (fun u hu => hw u (List.mem_cons_of_mem _ hu)) (by rw [pt_length (by rw [h]; exact hf) hmk (by omega), h])
theorem bad_short : Short bad.2.1 ∧ Short bad.2.2.1 ∧ ∀ w ∈ bad.2.2.1, Short w.2 := ⟨by decide, by decide, fun w h => by cases h⟩
theorem crash_short (b : Int) (x : List Int) (p : List Wr) (keep : List Bool) (torn many : Int) : Short (crashV b x p keep torn many).2.1 ∧ Short (crashV b x p keep torn many).2.2.1 ∧ ∀ w ∈ (crashV b x p keep torn many).2.2.1, Short w.2 := by
  unfold crashV
  cases hv : valid b x p
  · exact bad_short
  obtain ⟨B, rfl, hB, hB2, hx, hp, hw⟩ := (valid_iff.1 hv).nat
  by_cases h : keep.length = p.length ∧ -1 ≤ torn ∧ torn < (keep.length : Int) ∧ 0 ≤ many ∧ many ≤ (B : Int)
  · rw [decide_eq_true h]
    simp only [Bool.and_self, cond_true, Int.toNat_natCast]
    exact ⟨by show _ ≤ _; rw [rcL_len h.2.2.2.2 p 0 x hw rfl]; omega, by show _ ≤ _; simp, fun w h => by cases h⟩
  · rw [decide_eq_false h]; exact bad_short
theorem sync_short (b : Int) (x : List Int) (p : List Wr) : Short (syncV b x p).2.1 ∧ Short (syncV b x p).2.2.1 ∧ ∀ w ∈ (syncV b x p).2.2.1, Short w.2 := by
  unfold syncV
  cases hv : valid b x p
  · exact bad_short
  have := allB_len hv
  obtain ⟨B, rfl, hB, hB2, hx, hp, hw⟩ := (valid_iff.1 hv).nat
  exact ⟨by show _ ≤ _; simp only [cond_true]; omega, by show _ ≤ _; simp, fun w h => by cases h⟩
theorem write_short (b : Int) (x : List Int) (p : List Wr) (k : Int) (d : List Int) : Short (writeV b x p k d).2.1 ∧ Short (writeV b x p k d).2.2.1 ∧ ∀ w ∈ (writeV b x p k d).2.2.1, Short w.2 := by
  unfold writeV
  cases hv : valid b x p
  · exact bad_short
  obtain ⟨B, rfl, hB, hB2, hx, hp, hw⟩ := (valid_iff.1 hv).nat
  by_cases h : 0 ≤ k ∧ k < (x.length : Int) / (B : Int) ∧ (d.length : Int) = (B : Int)
  · rw [decide_eq_true h]
    by_cases h2 : 64 ≤ p.length
    · rw [decide_eq_true h2]; exact ⟨by show ([] : List Int).length ≤ _; simp, by show ([] : List Wr).length ≤ _; simp, fun w h => by cases h⟩
    · rw [decide_eq_false h2]
      simp only [Bool.and_self, cond_true, cond_false]
      refine ⟨by show _ ≤ _; omega, by show _ ≤ _; simp; omega, fun w hw' => ?_⟩
      rcases List.mem_append.1 hw' with h3 | h3
      · have := (hw w h3).2; show _ ≤ _; omega
      · simp only [List.mem_singleton] at h3; rw [h3]; show d.length ≤ _; omega
  · rw [decide_eq_false h]; exact bad_short
theorem new_short (a c : Int) : Short (newV a c).2.1 ∧ Short (newV a c).2.2.1 ∧ ∀ w ∈ (newV a c).2.2.1, Short w.2 := by
  unfold newV
  by_cases h : 1 ≤ a ∧ a ≤ 512 ∧ 1 ≤ c ∧ c ≤ 65536 / a
  · rw [decide_eq_true h]
    obtain ⟨h1, h2, h3, h4⟩ := h
    have e3 := (Int.le_ediv_iff_mul_le (show 0 < a by omega)).1 h4
    rw [Int.mul_comm] at e3
    exact ⟨by show _ ≤ _; simp only [cond_true, List.length_replicate]; omega, by show _ ≤ _; simp, fun w h => by cases h⟩
  · rw [decide_eq_false h]; exact bad_short
theorem read_short (b : Int) (x : List Int) (p : List Wr) (k : Int) : Short (readV b x p k).1 := by
  unfold readV
  cases hv : valid b x p
  · show ([] : List Int).length ≤ _; simp
  have := allB_len hv
  obtain ⟨B, rfl, hB, hB2, hx, hp, hw⟩ := (valid_iff.1 hv).nat
  cases decide (0 ≤ k ∧ k < (x.length : Int) / (B : Int))
  · show ([] : List Int).length ≤ _; simp
  · show (blkB _ _ _).length ≤ _
    unfold blkB; simp only [List.length_drop, List.length_take]; omega
end Go.Proofs.Ytchgjjgdgbecmaa
set_option linter.unusedVariables false
namespace Go.Proofs.Ytchgjjgdgbecmaa
open Go Go.AM Go.TM Go.Proofs
theorem getD_app {α : Type} {a b : List α} {j : Nat} (d : α) : (a ++ b).getD j d = if j < a.length then a.getD j d else b.getD (j - a.length) d := by
  simp only [List.getD, List.getElem?_append]
  split <;> rfl
theorem getD_take {α : Type} {a : List α} {j n : Nat} (d : α) (h : j < n) : (a.take n).getD j d = a.getD j d := by
  simp [List.getD, List.getElem?_take, h]
theorem getD_drop' {α : Type} {a : List α} {j n : Nat} (d : α) : (a.drop n).getD j d = a.getD (n + j) d := by
  simp [List.getD, List.getElem?_drop]
/-- Each byte of a disk on which part of a write was done. -/
theorem pt_getD {B m : Nat} {out : List Int} {w : Wr} (hf : Fits B out.length w) (h1 : m ≤ B) (h2 : m ≤ w.2.length) (j : Nat) :
    (pt B out w m).getD j 0 = if w.1.toNat * B ≤ j ∧ j < w.1.toNat * B + m then w.2.getD (j - w.1.toNat * B) 0 else out.getD j 0 := by
  have h3 := hf.2
  rw [Nat.add_mul, Nat.one_mul] at h3
  unfold pt
  have l1 : (out.take (w.1.toNat * B)).length = w.1.toNat * B := by rw [List.length_take]; omega
  have l2 : (out.take (w.1.toNat * B) ++ w.2.take m).length = w.1.toNat * B + m := by rw [List.length_append, l1, List.length_take]; omega
  rw [getD_app, l2]
  by_cases c1 : j < w.1.toNat * B + m
  · rw [if_pos c1, getD_app, l1]
    by_cases c2 : j < w.1.toNat * B
    · rw [if_pos c2, if_neg (by omega), getD_take _ c2]
    · rw [if_neg c2, if_pos (by omega), getD_take _ (by omega)]
  · rw [if_neg c1, if_neg (by omega), getD_drop']
    congr 1; omega
theorem in_block {B k j : Nat} (h1 : k * B ≤ j) (h2 : j < k * B + B) : j / B = k ∧ j % B = j - k * B := by
  have hB : 0 < B := by omega
  have e : j = (j - k * B) + k * B := by omega
  constructor
  · rw [e, Nat.add_mul_div_right _ _ hB, Nat.div_eq_of_lt (by omega), Nat.zero_add]
  · rw [e, Nat.add_mul_mod_self_right, Nat.mod_eq_of_lt (by omega)]; omega
theorem block_in {B k j : Nat} (hB : 1 ≤ B) (h : j / B = k) : k * B ≤ j ∧ j < k * B + B := by
  have h1 := Nat.div_add_mod j B
  have h2 := Nat.mod_lt j (show B > 0 by omega)
  rw [h, Nat.mul_comm] at h1
  omega
/-- A byte is that which was safe, or that of a pending write of its block. -/
theorem rcL_each {B m : Nat} {keep : List Bool} {torn many : Int} (h1 : many ≤ (B : Int)) (j : Nat) : ∀ (p : List Wr) (i : Nat) (x : List Int), (∀ w ∈ p, Fits B m w ∧ w.2.length = B) → x.length = m →
    (rcL B keep torn many i p x).getD j 0 = x.getD j 0 ∨ ∃ w ∈ p, w.1.toNat = j / B ∧ w.2.getD (j % B) 0 = (rcL B keep torn many i p x).getD j 0
  | [], i, x, _, h => .inl rfl
  | w :: r, i, x, hw, h => by
    obtain ⟨hf, hl⟩ := hw w (List.mem_cons_self ..)
    have hf' : Fits B x.length w := by rw [h]; exact hf
    have hmk : mk B keep torn many i ≤ B := by
      unfold mk
      cases decide ((i : Int) = torn) <;> cases keep.getD i false <;> simp only [cond_true, cond_false] <;> omega
    rw [rcL]
    rcases rcL_each h1 j r (i + 1) (pt B x w (mk B keep torn many i)) (fun u hu => hw u (List.mem_cons_of_mem _ hu)) (by rw [pt_length hf' hmk (by omega), h]) with e | ⟨u, hu, e1, e2⟩
    · rw [e, pt_getD hf' hmk (by omega)]
      by_cases c : w.1.toNat * B ≤ j ∧ j < w.1.toNat * B + mk B keep torn many i
      · rw [if_pos c]
        obtain ⟨d1, d2⟩ := in_block c.1 (show j < w.1.toNat * B + B by omega)
        exact .inr ⟨w, List.mem_cons_self .., d1.symm, by rw [d2]⟩
      · rw [if_neg c]; exact .inl rfl
    · exact .inr ⟨u, List.mem_cons_of_mem _ hu, e1, e2⟩
end Go.Proofs.Ytchgjjgdgbecmaa
set_option linter.unusedVariables false
namespace Go.Proofs.Ytchgjjgdgbecmaa
open Go Go.AM Go.TM Go.Proofs
theorem ext_getD {a b : List Int} (hl : a.length = b.length) (h : ∀ j, j < a.length → a.getD j 0 = b.getD j 0) : a = b := by
  apply List.ext_getElem hl
  intro j h1 h2
  have := h j h1
  simp only [List.getD, List.getElem?_eq_getElem h1, List.getElem?_eq_getElem h2, Option.getD_some] at this
  exact this
theorem wr_pt {B : Nat} {out : List Int} {w : Wr} (h : w.2.length = B) : wr B out w = pt B out w B := by
  unfold wr pt; rw [h, Nat.min_self]
theorem blkB_length {B : Nat} {x : List Int} {k : Int} (h : k.toNat * B + B ≤ x.length) : (blkB B x k).length = B := by
  unfold blkB; simp only [List.length_drop, List.length_take]; omega
theorem blkB_getD {B : Nat} {x : List Int} {k : Int} {j : Nat} (h : j < B) : (blkB B x k).getD j 0 = x.getD (k.toNat * B + j) 0 := by
  unfold blkB
  rw [getD_drop', getD_take _ (by omega)]
theorem blk_ne {B i k : Nat} (h : i ≠ k) {j : Nat} (hj : j < B) : ¬ (k * B ≤ i * B + j ∧ i * B + j < k * B + B) := by
  rintro ⟨h1, h2⟩
  have hB : 0 < B := by omega
  obtain ⟨e1, _⟩ := in_block h1 h2
  obtain ⟨e2, _⟩ := in_block (k := i) (j := i * B + j) (B := B) (by omega) (by omega)
  exact h (e2.symm.trans e1)
/-- A write's own block holds its data. -/
theorem blk_same {B : Nat} {out : List Int} {w : Wr} (hf : Fits B out.length w) (hw : w.2.length = B) : blkB B (wr B out w) w.1 = w.2 := by
  have h3 := hf.2
  rw [Nat.add_mul, Nat.one_mul] at h3
  have hl := wr_length hf
  refine ext_getD (by rw [blkB_length (by rw [hl]; omega), hw]) fun j hj => ?_
  rw [blkB_length (by rw [hl]; omega)] at hj
  rw [blkB_getD hj, wr_pt hw, pt_getD hf (Nat.le_refl _) (by omega), if_pos (by omega)]
  congr 1; omega
theorem blk_other {B : Nat} {out : List Int} {w : Wr} {i : Int} (hf : Fits B out.length w) (hw : w.2.length = B) (hi : i.toNat * B + B ≤ out.length) (h0 : 0 ≤ i) (hne : i ≠ w.1) : blkB B (wr B out w) i = blkB B out i := by
  have hl := wr_length hf
  refine ext_getD (by rw [blkB_length (by rw [hl]; omega), blkB_length hi]) fun j hj => ?_
  rw [blkB_length (by rw [hl]; omega)] at hj
  rw [blkB_getD hj, blkB_getD hj, wr_pt hw, pt_getD hf (Nat.le_refl _) (by omega), if_neg (blk_ne (by have := hf.1; omega) hj)]
theorem allB_snoc {b : Int} {x : List Int} {p : List Wr} {w : Wr} : allB b x (p ++ [w]) = wr b.toNat (allB b x p) w := by
  unfold allB; rw [List.foldl_append]; rfl
theorem valid_len {b : Int} {x y : List Int} {p : List Wr} (h : valid b x p = true) (hl : y.length = x.length) : valid b y [] = true := by
  have hV := valid_iff.1 h
  exact valid_iff.2 ⟨hV.b1, hV.b2, by rw [hl]; exact hV.x1, by rw [hl]; exact hV.x2, by rw [hl]; exact hV.md, by simp, fun w hw => by cases hw⟩
theorem valid_snoc {b : Int} {x : List Int} {p : List Wr} {w : Wr} (h : valid b x p = true) (h1 : p.length < 64) (hw : 0 ≤ w.1 ∧ w.1 < (x.length : Int) / b ∧ (w.2.length : Int) = b) : valid b x (p ++ [w]) = true := by
  have hV := valid_iff.1 h
  refine valid_iff.2 ⟨hV.b1, hV.b2, hV.x1, hV.x2, hV.md, by simp; omega, fun u hu => ?_⟩
  rcases List.mem_append.1 hu with h | h
  · exact hV.ws u h
  · simp only [List.mem_singleton] at h; rw [h]; exact hw
/-- Reading a block of a valid disk. -/
theorem readV_ok {b : Int} {x : List Int} {p : List Wr} {i : Int} (h : valid b x p = true) (h1 : 0 ≤ i) (h2 : i < (x.length : Int) / b) : readV b x p i = (blkB b.toNat (allB b x p) i, 0) := by
  unfold readV; rw [h, decide_eq_true ⟨h1, h2⟩]; rfl
end Go.Proofs.Ytchgjjgdgbecmaa
set_option linter.unusedVariables false
namespace Go.Proofs.Ytchgjjgdgbecmaa
open Go Go.AM Go.TM Go.Proofs
theorem v26_eq (b : Int) (x : List Int) (p : List Wr) (hp : p.length ≤ 9223372036854775807) : v26 b x p = some (few x p && valid b x p) := by
  unfold v26
  simp only [v11_eq b x p hp, v25_eq, ok_some, val_some, cond_true]
  cases few x p <;> rfl
theorem rcL_congr {B : Nat} {k1 k2 : List Bool} {t1 m1 t2 m2 : Int} : ∀ (p : List Wr) (i : Nat) (x : List Int), (∀ j, i ≤ j → j < i + p.length → mk B k1 t1 m1 j = mk B k2 t2 m2 j) → rcL B k1 t1 m1 i p x = rcL B k2 t2 m2 i p x
  | [], i, x, _ => rfl
  | w :: p, i, x, h => by
    rw [rcL, rcL, h i (Nat.le_refl _) (by simp)]
    exact rcL_congr p (i + 1) _ fun j h1 h2 => h j (by omega) (by simp; omega)
theorem rcL_none {B : Nat} {keep : List Bool} {t m : Int} : ∀ (p : List Wr) (i : Nat) (x : List Int), (∀ j, mk B keep t m j = 0) → rcL B keep t m i p x = x
  | [], i, x, _ => rfl
  | w :: p, i, x, h => by
    rw [rcL, h i, pt_zero]
    exact rcL_none p (i + 1) x h
theorem crash_end {b : Int} {x : List Int} {p : List Wr} (hv : valid b x p = true) : crashV b x p (List.replicate p.length true) ((p.length : Int) - 1) b = syncV b x p := by
  rw [← crash_all]
  have hV := valid_iff.1 hv
  have hb := hV.b1
  unfold crashV
  rw [decide_eq_true (show ((List.replicate p.length true).length = p.length ∧ (-1 : Int) ≤ -1 ∧ (-1 : Int) < ((List.replicate p.length true).length : Int) ∧ (0 : Int) ≤ 0 ∧ (0 : Int) ≤ b) by simp; omega),
    decide_eq_true (show ((List.replicate p.length true).length = p.length ∧ (-1 : Int) ≤ (p.length : Int) - 1 ∧ (p.length : Int) - 1 < ((List.replicate p.length true).length : Int) ∧ (0 : Int) ≤ b ∧ b ≤ b) by simp; omega)]
  rw [rcL_congr p 0 x (k2 := List.replicate p.length true) (t2 := -1) (m2 := 0) fun j h1 h2 => by
    unfold mk
    rw [getD_rep (by omega), decide_eq_false (show ¬ ((j : Int) = -1) by omega)]
    cases decide ((j : Int) = (p.length : Int) - 1) <;> rfl]
theorem crash_none {b : Int} {x : List Int} {p : List Wr} (hv : valid b x p = true) {t : Int} (h1 : -1 ≤ t) (h2 : t < p.length) : crashV b x p (List.replicate p.length false) t 0 = (b, x, [], 0) := by
  have hV := valid_iff.1 hv
  have hb := hV.b1
  unfold crashV
  rw [hv, decide_eq_true (show ((List.replicate p.length false).length = p.length ∧ (-1 : Int) ≤ t ∧ t < ((List.replicate p.length false).length : Int) ∧ (0 : Int) ≤ 0 ∧ (0 : Int) ≤ b) by simp; omega),
    rcL_none p 0 x fun j => by
      unfold mk
      have e : (List.replicate p.length false).getD j false = false := by
        simp only [List.getD, List.getElem?_replicate]
        split <;> rfl
      rw [e]
      cases decide ((j : Int) = t) <;> rfl]
  rfl
theorem l6 (x0 : Int) (x1 : Bool) (x2 x5 : Int) (x6 : List Int) (x7 : List Wr) (x9 : List Bool) (m : Nat) (hm : m ≤ 2147483648) : ∀ (k n i : Nat), i + k = m → k < n → L6_0_0 n x0 x1 x2 (m : Int) (i : Int) x5 x6 x7 (List.replicate i true ++ List.replicate k false) x9 = some (List.replicate m true) := by
  intro k
  induction k with
  | zero =>
    intro n i h1 h2
    cases n with
    | zero => omega
    | succ n =>
      obtain rfl : i = m := by omega
      rw [qL6_0_0]
      simp
  | succ k ih =>
    intro n i h1 h2
    cases n with
    | zero => omega
    | succ n =>
      rw [qL6_0_0]
      have hl : (List.replicate i true ++ List.replicate (k + 1) false).length = m := by simp; omega
      rw [hl, decide_eq_true (show (i : Int) < (m : Int) by omega), decide_eq_true (show (0 : Int) ≤ (i : Int) by omega), decide_eq_true (show Int.toNat (i : Int) < m by simp; omega), up1 (by omega)]
      simp only [cond_true, Int.toNat_natCast]
      have hs : (List.replicate i true ++ List.replicate (k + 1) false).set i true = List.replicate (i + 1) true ++ List.replicate k false := by
        have h := set_mid (List.replicate i true) (List.replicate k false) false true
        rw [List.length_replicate] at h
        rw [List.replicate_succ, h, List.replicate_succ' (n := i)]
        simp
      rw [hs]
      exact ih n (i + 1) (by omega) (by omega)
theorem sync_ok {b : Int} {x : List Int} {p : List Wr} (hv : valid b x p = true) : syncV b x p = (b, allB b x p, [], 0) := by unfold syncV; rw [hv]; rfl
theorem l6_100 (k : Int) (hk : 0 ≤ k) (hk2 : k ≤ 255) {b : Int} {x : List Int} {p : List Wr} (hv : valid b x p = true) : L6_100_0 k true (p.length : Int) (List.replicate p.length false) (List.replicate p.length true) 0 b x p b (allB b x p) [] = some true := by
  have hV := valid_iff.1 hv
  have hp := hV.p1
  have hx := hV.x2
  have hl := allB_len hv
  have m1 := Int.emod_nonneg k (show (p.length : Int) + 1 ≠ 0 by omega)
  have m2 := Int.emod_lt_of_pos k (show 0 < (p.length : Int) + 1 by omega)
  have e : L6_132_0 true 0 0 0 0 0 b x p b (allB b x p) [] b (allB b x p) [] b (allB b x p) [] b x [] b x [] = some true := by
    have s1 := same_self (b, allB b x p, [], 0) (by show (allB b x p).length ≤ _; omega) (by show _ ≤ _; simp) (fun w h => by cases h)
    have s2 := same_self (b, x, [], 0) (by show x.length ≤ _; omega) (by show _ ≤ _; simp) (fun w h => by cases h)
    simp only at s1 s2
    unfold L6_132_0
    rw [s1, s2]
    rfl
  unfold L6_100_0
  rw [wrap_id (x := (p.length : Int) - 1) (by omega) (by omega), wrap_id (x := (p.length : Int) + 1) (by omega) (by omega), wrap_id (x := k) (by omega) (by omega), decide_eq_true (show (p.length : Int) + 1 ≠ 0 by omega), show Int.tmod k ((p.length : Int) + 1) = k % ((p.length : Int) + 1) from Int.tmod_eq_emod_of_nonneg hk,
    wrap_id (x := k % ((p.length : Int) + 1) - 1) (by omega) (by omega)]
  simp only [v16_eq, crash_all, crash_end hv, crash_none hv (t := -1) (by omega) (by omega), crash_none hv (t := k % ((p.length : Int) + 1) - 1) (by omega) (by omega), sync_ok hv, ok_some, val_some, cond_true, e]
theorem v6_true (b : Int) (x : List Int) (p : List Wr) (k : Int) (hp : p.length ≤ 9223372036854775807) (hk : 0 ≤ k) (hk2 : k ≤ 255) : v6 b x p k = some true := by
  unfold v6
  simp only [v26_eq b x p hp, ok_some, val_some, cond_true, cond_nb]
  cases hf : few x p
  · rfl
  cases hv : valid b x p
  · rfl
  simp only [Bool.and_self, cond_true, cond_false, Bool.not_true]
  have hV := valid_iff.1 hv
  have h64 := hV.p1
  have e : L6_36_0 k true b x p = some true := by
    unfold L6_36_0
    have h := l6 k true p.length b x p (List.replicate p.length false) p.length (by omega) p.length FU 0 (by omega) (by unfold FU; omega)
    simp only [List.replicate_zero, List.nil_append, Int.natCast_zero] at h
    simp only [Int.toNat_natCast, List.length_replicate, h, v14_eq, sync_ok hv, ok_some, val_some, cond_true, l6_100 k hk hk2 hv]
    rw [decide_eq_true (show (p.length : Int) ≤ (p.length : Int) by omega), decide_eq_true (show (p.length : Int) ≤ ((2147483648 : Nat) : Int) by omega)]
    rfl
  rw [show val v10 = true from rfl, e]
  rfl
end Go.Proofs.Ytchgjjgdgbecmaa
set_option maxRecDepth 100000
namespace Go.Proofs.Ytchgjjgdgbecmaa
open Go Go.ChangeShapes Go.WideShapes Go.ChangeAt Go.RowKit Go.AM Go.TM
theorem own0 : ownKnob Try.prog.godebug = none := by kernel_rfl
theorem laid0 : laidOutB Try.prog = true := by kernel_rfl
abbrev taus : List Ty := [.pair (.int .i64) (.pair (.list 5 (.int .u8)) (.list 44 (.pair (.int .i64) (.list 5 (.int .u8))))), .int .u8]
theorem args0 (x : (Int × List Int × List (Int × List Int)) × Int × Unit) : argsOf Try.prog Try.f6.params.toList taus x = [.agg [.int .i64 x.1.1, .d 5 (.int .u8) x.1.2.1, .d 44 (.pair (.int .i64) (.list 5 (.int .u8))) x.1.2.2], .sc (.int .u8 x.2.1)] := by
  kernel_rfl
theorem law_run : ∀ x : Tup taus, InTup taus x → ∃ k H', TM.evF Try.prog (mkTn base o23 t23) dOk k 6 (argsOf Try.prog Try.f6.params.toList taus x) [] = some ([.sc (.bool true)], H') := by
  intro x hx
  have h0 : (show List (Int × List Int) from x.1.2.2).length ≤ 9223372036854775807 := (hx.1).2.2.1
  have g0 : (show List Int from x.1.2.1).length ≤ 9223372036854775807 := (hx.1).2.1.1
  have h1 : 0 ≤ (show Int from x.2.1) := (hx.2.1).1
  have k1 : (show Int from x.2.1) ≤ 255 := (hx.2.1).2
  have e := args0 x
  rw [e]
  refine ⟨41, [], ?_⟩
  rw [fn_eq, ev6, v6_true _ _ _ _ h0 h1 k1]
  rfl
theorem law_lifted (os : Os) (started : os.Started) (H : Type) (enc : TypeId × Value → H) :
    ReturnsInHanded {} Try.checked os 6 .any (Rows.diskAllSpec.pre6 enc Try.prog Try.f6 Rows.diskAllRow.domain false) (Rows.diskAllSpec.post enc Try.prog Try.f6 false true false false) :=
  law_tm (C := Try.checked) (τs := taus) (tb := 4) (base := base) (O := o23) (T := t23) own0 started (by kernel_rfl) Try.func6
    (ChangeSpec.witness6 (enc := enc) (C := Try.checked) false ⟨#[], #[.agg #[.int .i64 0, .slice none 0 0, .slice none 0 0], .int .u8 0], []⟩ 8 (by kernel_rfl) (by kernel_rfl) (by kernel_rfl) (by kernel_rfl))
    laid0 (by kernel_rfl) (by kernel_rfl) rfl (by kernel_rfl) names mixed ok23 (by kernel_rfl)
    (fun ds h => by
      match ds, h with
      | [_, _], _ => rfl)
    law_run
theorem diskAll_holds : Rows.DiskAllSaid :=
  OpenClaim.holds_of_wide 6 Try.f6 rfl rfl rfl rfl rfl rfl rfl ⟨rfl, rfl, rfl, rfl, rfl⟩ rfl rfl rfl rfl rfl (by kernel_rfl) Try.func6 (by kernel_rfl)
    (of_decide_eq_true (by kernel_rfl)) (by unfold Func.isWrapper; first | (rw [if_pos (by decide +kernel)]; kernel_rfl) | (rw [if_neg (by decide +kernel)]; exact ⟨rfl, rfl⟩))
    (fun os started H enc _ => law_lifted os started H enc)
end Go.Proofs.Ytchgjjgdgbecmaa
