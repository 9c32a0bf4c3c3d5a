/- IntervalLeast: it returns true at every input; no conditions. -/
import Derived.Test.YtojbaamhnfinpaaG3
import Derived.Test.YtojbaamhnfinpaaRows
import Derived.ProofKit
set_option linter.all false
set_option linter.constructorNameAsVariable false
set_option linter.unnecessarySimpa false
set_option linter.unusedSimpArgs false
set_option linter.unusedVariables false
set_option linter.unusedVariables false
namespace Go.Proofs.Ytojbaamhnfinpaa
open Go Go.AM Go.TM Go.Proofs

@[simp] theorem ok_some {α : Type} (x : α) : ok (some x) = true := rfl
@[simp] theorem ok_none {α : Type} : ok (none : Option α) = false := rfl
@[simp] theorem val_some {α : Type} [Inhabited α] (x : α) : val (some x) = x := rfl

theorem wrap_id {x : Int} (h1 : -9223372036854775808 ≤ x) (h2 : x ≤ 9223372036854775807) : IntKind.wrap IntKind.i64 x = x := by
  simp [IntKind.wrap, IntKind.bits, IntKind.signed]
  omega

/-- Is this a valid interval. -/
def vb (a b : Int) : Bool := decide (-1000000000000 ≤ a ∧ a ≤ 1000000000000 ∧ -1000000000000 ≤ b ∧ b ≤ 1000000000000 ∧ a ≤ b)
theorem vb_iff {a b : Int} : vb a b = true ↔ -1000000000000 ≤ a ∧ a ≤ 1000000000000 ∧ -1000000000000 ≤ b ∧ b ≤ 1000000000000 ∧ a ≤ b := by simp [vb]

theorem v51_eq (a : Int) : v51 a = some (decide (-1000000000000 ≤ a ∧ a ≤ 1000000000000)) := by
  unfold v51
  by_cases h : -1000000000000 ≤ a <;> simp [h]
theorem v35_eq (a : Int) : v35 a = some (decide (-1000000000000 ≤ a ∧ a ≤ 1000000000000)) := v51_eq a
theorem v27_eq (a b : Int) : v27 a b = some (vb a b) := by
  unfold v27
  simp only [v51_eq, ok_some, val_some, cond_true, vb]
  by_cases h : -1000000000000 ≤ a ∧ a ≤ 1000000000000 <;> by_cases h' : -1000000000000 ≤ b ∧ b ≤ 1000000000000 <;> simp [h, h'] <;> omega
theorem v28_eq (a b : Int) : v28 a b = some (vb a b) := v27_eq a b

/-- Lowest and highest of four. -/
def lo4 (p q r s : Int) : Int := min (min (min p q) r) s
def hi4 (p q r s : Int) : Int := max (max (max p q) r) s
theorem v50_eq (p q r s : Int) : v50 [p, q, r, s] = some (lo4 p q r s, hi4 p q r s) := by rfl
theorem v42_eq (p q r s : Int) : v42 p q r s = some (lo4 p q r s, hi4 p q r s) := by rfl

/-- The interval around four numbers. -/
def of4 (p q r s : Int) : Int × Int × Int := cond (vb (lo4 p q r s) (hi4 p q r s)) (lo4 p q r s, hi4 p q r s, 0) (0, 0, 3)
def chk (p q : Int) : Int × Int × Int := cond (vb p p && vb q q) (p, q, 0) (0, 0, 3)
theorem v39_eq (a b : Int) : v39 a b = some (chk a b) := by
  unfold v39 chk
  simp only [v35_eq, ok_some, val_some, cond_true, vb]
  by_cases h : -1000000000000 ≤ a ∧ a ≤ 1000000000000 <;> by_cases h' : -1000000000000 ≤ b ∧ b ≤ 1000000000000 <;> simp [h, h']

/-! ### Products and quotients -/
theorem wabs {x : Int} (h1 : -1000000000000 ≤ x) (h2 : x ≤ 1000000000000) : max x (IntKind.wrap IntKind.i64 ((0 : Int) - x)) = (x.natAbs : Int) := by
  rw [wrap_id (by omega) (by omega)]
  omega
/-- A product, if it is a value. -/
def mulV (t a b : Int) : Int := cond (decide (-1000000000000 ≤ a * b ∧ a * b ≤ 1000000000000)) (a * b) t
theorem abs_mul_iff {a b : Int} : (-1000000000000 ≤ a * b ∧ a * b ≤ 1000000000000) ↔ a.natAbs * b.natAbs ≤ 1000000000000 := by
  rw [← Int.natAbs_mul]; omega
theorem div_iff {a b : Int} (ha : a ≠ 0) (hb : b.natAbs ≤ 1000000000000) : ((b.natAbs : Int) ≤ Int.tdiv 1000000000000 (a.natAbs : Int)) ↔ a.natAbs * b.natAbs ≤ 1000000000000 := by
  have h0 : 0 < a.natAbs := by omega
  rw [show (1000000000000 : Int) = ((1000000000000 : Nat) : Int) by rfl, ← Int.ofNat_tdiv, Int.ofNat_le, Nat.le_div_iff_mul_le h0, Nat.mul_comm]
theorem tdiv_bd {a : Int} (ha : a ≠ 0) : 0 ≤ Int.tdiv 1000000000000 (a.natAbs : Int) ∧ Int.tdiv 1000000000000 (a.natAbs : Int) ≤ 1000000000000 := by
  rw [show (1000000000000 : Int) = ((1000000000000 : Nat) : Int) by rfl, ← Int.ofNat_tdiv]
  exact ⟨Int.natCast_nonneg _, Int.ofNat_le.2 (Nat.div_le_self 1000000000000 a.natAbs)⟩
theorem v41_eq {a b : Int} (h1 : -1000000000000 ≤ a) (h2 : a ≤ 1000000000000) (h3 : -1000000000000 ≤ b) (h4 : b ≤ 1000000000000) : v41 a b = some (mulV 2000000000000 a b) := by
  unfold v41 mulV
  by_cases h0 : a = 0
  · subst h0; simp [wrap_id]
  · have ht := tdiv_bd h0
    simp only [wabs h1 h2, wabs h3 h4, wrap_id (x := Int.tdiv 1000000000000 (a.natAbs : Int)) (by omega) (by omega), abs_mul_iff, div_iff h0 (b := b) (by omega)]
    rw [show (a == 0) = false by simpa using h0, show decide ((a.natAbs : Int) ≠ 0) = true by simpa using h0]
    simp only [cond_true, cond_false]
    by_cases h : a.natAbs * b.natAbs ≤ 1000000000000
    · have := abs_mul_iff.2 h
      simp [h, wrap_id (x := a * b) (by omega) (by omega)]
    · simp [h]
theorem v36_eq {a b : Int} (h1 : -1000000000000 ≤ a) (h2 : a ≤ 1000000000000) (h3 : -1000000000000 ≤ b) (h4 : b ≤ 1000000000000) : v36 a b = some (mulV 1000000000001 a b) := by
  unfold v36 mulV v52
  by_cases h0 : a = 0
  · subst h0; simp [wrap_id]
  · have ht := tdiv_bd h0
    simp only [val_some, wabs h1 h2, wabs h3 h4, wrap_id (x := Int.tdiv 1000000000000 (a.natAbs : Int)) (by omega) (by omega), abs_mul_iff]
    rw [show (a != 0) = true by simpa using h0, show decide ((a.natAbs : Int) ≠ 0) = true by simpa using h0]
    simp only [cond_true]
    by_cases h : a.natAbs * b.natAbs ≤ 1000000000000
    · have := abs_mul_iff.2 h
      have h' := (div_iff h0 (b := b) (by omega)).2 h
      simp [h, wrap_id (x := a * b) (by omega) (by omega), Int.not_lt.2 h']
    · have h' : Int.tdiv 1000000000000 (a.natAbs : Int) < (b.natAbs : Int) := by
        have := mt (div_iff h0 (b := b) (by omega)).1 h
        omega
      simp [h, h']

/-! ### Quotients, rounded down -/
theorem q_bd {a b : Int} (h1 : -1000000000000 ≤ a) (h2 : a ≤ 1000000000000) : -1000000000000 ≤ Int.tdiv a b ∧ Int.tdiv a b ≤ 1000000000000 := by
  have := Int.natAbs_tdiv_le_natAbs a b
  omega
theorem fd {a b : Int} (hb : b ≠ 0) : Int.fdiv a b = cond (decide (Int.tmod a b ≠ 0) && (decide (a < 0) != decide (b < 0))) (Int.tdiv a b - 1) (Int.tdiv a b) := by
  rw [Int.fdiv_eq_tdiv]
  by_cases hd : b ∣ a
  · have hm : Int.tmod a b = 0 := Int.tmod_eq_zero_of_dvd hd
    simp [hd, hm]
  · have hm : Int.tmod a b ≠ 0 := fun h => hd (Int.dvd_of_tmod_eq_zero h)
    have ha : a ≠ 0 := fun h => hd (h ▸ Int.dvd_zero b)
    rw [if_neg hd]
    by_cases h1 : a < 0 <;> by_cases h2 : b < 0
    · rw [if_neg (by omega), if_neg (by omega), Int.sign_eq_neg_one_of_neg h2]; simp [h1, h2]
    · rw [if_neg (by omega), if_pos (by omega), Int.sign_eq_one_of_pos (by omega)]; simp [h1, h2, hm]
    · rw [if_pos (by omega), if_neg (by omega)]; simp [h1, h2, hm]
    · rw [if_pos (by omega), if_pos (by omega)]; simp [h1, h2]
theorem qb_bd {a b : Int} (h1 : -1000000000000 ≤ a) (h2 : a ≤ 1000000000000) : -1000000000000 ≤ Int.tdiv a b * b ∧ Int.tdiv a b * b ≤ 1000000000000 := by
  have h : (Int.tdiv a b * b).natAbs ≤ a.natAbs := by
    rw [Int.natAbs_mul, Int.natAbs_tdiv]
    exact Nat.div_mul_le_self ..
  omega
theorem mul_ne {a b : Int} : (Int.tdiv a b * b != a) = decide (Int.tmod a b ≠ 0) := by
  have e := Int.mul_tdiv_add_tmod a b
  rw [Int.mul_comm] at e
  generalize Int.tdiv a b * b = z at *
  by_cases h : Int.tmod a b = 0
  · simp [h]; omega
  · simp [h]; omega
theorem v44_eq {a b : Int} (h1 : -1000000000000 ≤ a) (h2 : a ≤ 1000000000000) (hb : b ≠ 0) : v44 a b = some (Int.fdiv a b) := by
  have q := q_bd (b := b) h1 h2
  have hl := qb_bd (b := b) h1 h2
  unfold v44
  rw [fd hb]
  simp only [wrap_id (x := Int.tdiv a b) (by omega) (by omega), wrap_id (x := Int.tdiv a b * b) (by omega) (by omega), wrap_id (x := Int.tdiv a b - 1) (by omega) (by omega)]
  rw [mul_ne, show decide (b ≠ 0) = true by simpa using hb]
  simp only [cond_true]
  cases decide (Int.tmod a b ≠ 0) <;> cases decide (a < 0) <;> cases decide (b < 0) <;> rfl
theorem v46_eq {a b : Int} (h1 : -1000000000000 ≤ a) (h2 : a ≤ 1000000000000) (hb : b ≠ 0) : v46 a b = some (Int.fdiv a b) := by
  have q := q_bd (b := b) h1 h2
  unfold v46
  rw [fd hb]
  simp only [wrap_id (x := Int.tdiv a b) (by omega) (by omega), wrap_id (x := Int.tdiv a b - 1) (by omega) (by omega)]
  rw [show decide (b ≠ 0) = true by simpa using hb, show (Int.tmod a b != 0) = decide (Int.tmod a b ≠ 0) by by_cases h : Int.tmod a b = 0 <;> simp [h]]
  simp only [cond_true]
  cases decide (Int.tmod a b ≠ 0) <;> cases decide (a < 0) <;> cases decide (b < 0) <;> rfl
theorem f_bd {a b : Int} (h1 : -1000000000000 ≤ a) (h2 : a ≤ 1000000000000) (hb : b ≠ 0) : -1000000000001 ≤ Int.fdiv a b ∧ Int.fdiv a b ≤ 1000000000000 := by
  have q := q_bd (b := b) h1 h2
  rw [fd hb]
  cases (decide (Int.tmod a b ≠ 0) && (decide (a < 0) != decide (b < 0))) <;> simp only [cond_true, cond_false] <;> omega
theorem v47_eq {a b : Int} (h1 : -1000000000000 ≤ a) (h2 : a ≤ 1000000000000) (hb : b ≠ 0) : v47 a b = some (-Int.fdiv (-a) b) := by
  have q := f_bd (a := -a) (b := b) (by omega) (by omega) hb
  unfold v47
  rw [wrap_id (x := (0 : Int) - a) (by omega) (by omega), show (0 : Int) - a = -a by omega, v44_eq (by omega) (by omega) hb]
  simp only [ok_some, cond_true, val_some]
  rw [wrap_id (by omega) (by omega), Int.zero_sub]

/-! ### The operations -/
theorem lo_bd {p q r s m M : Int} (h : m ≤ p ∧ p ≤ M ∧ m ≤ q ∧ q ≤ M ∧ m ≤ r ∧ r ≤ M ∧ m ≤ s ∧ s ≤ M) : m ≤ lo4 p q r s ∧ lo4 p q r s ≤ M ∧ m ≤ hi4 p q r s ∧ hi4 p q r s ≤ M := by
  unfold lo4 hi4; omega
theorem trip (x : Int × Int × Int) : (x.1, x.2.1, x.2.2) = x := rfl

/-- What an operation answers, by what it makes of the four pairs of ends. -/
def opV (f : Int → Int → Int) (a b c d : Int) : Int × Int × Int := cond (vb a b && vb c d) (of4 (f a c) (f a d) (f b c) (f b d)) (0, 0, 1)
theorem cond_nb {α : Type} (b : Bool) (x y : α) : cond (!b) x y = cond b y x := by cases b <;> rfl
theorem v11_eq (a b c d : Int) : v11 a b c d = some (opV (· + ·) a b c d) := by
  unfold v11 v37
  simp only [v27_eq, ok_some, val_some, cond_true, v53, v38, v50_eq, cond_nb, trip, opV]
  by_cases h1 : vb a b = true <;> by_cases h2 : vb c d = true <;> simp [h1, h2, of4]
  rw [vb_iff] at h1 h2
  rw [wrap_id (by omega) (by omega), wrap_id (by omega) (by omega), wrap_id (by omega) (by omega), wrap_id (by omega) (by omega)]
  cases vb (lo4 (a + c) (a + d) (b + c) (b + d)) (hi4 (a + c) (a + d) (b + c) (b + d)) <;> rfl
theorem v13_eq (a b c d : Int) : v13 a b c d = some (opV (· - ·) a b c d) := by
  unfold v13 v37_1
  simp only [v27_eq, ok_some, val_some, cond_true, v53_1, v40, v50_eq, cond_nb, trip, opV]
  by_cases h1 : vb a b = true <;> by_cases h2 : vb c d = true <;> simp [h1, h2, of4]
  rw [vb_iff] at h1 h2
  rw [wrap_id (by omega) (by omega), wrap_id (by omega) (by omega), wrap_id (by omega) (by omega), wrap_id (by omega) (by omega)]
  cases vb (lo4 (a - c) (a - d) (b - c) (b - d)) (hi4 (a - c) (a - d) (b - c) (b - d)) <;> rfl
theorem v15_eq (a b c d : Int) : v15 a b c d = some (opV (mulV 2000000000000) a b c d) := by
  unfold v15 v37_2
  simp only [v27_eq, ok_some, val_some, cond_true, v53_2, v50_eq, cond_nb, trip, opV]
  by_cases h1 : vb a b = true <;> by_cases h2 : vb c d = true <;> simp [h1, h2, of4]
  rw [vb_iff] at h1 h2
  simp only [v41_eq (a := a) (b := c) (by omega) (by omega) (by omega) (by omega), v41_eq (a := a) (b := d) (by omega) (by omega) (by omega) (by omega), v41_eq (a := b) (b := c) (by omega) (by omega) (by omega) (by omega), v41_eq (a := b) (b := d) (by omega) (by omega) (by omega) (by omega), ok_some, cond_true, val_some]
  generalize mulV 2000000000000 a c = p
  generalize mulV 2000000000000 a d = q
  generalize mulV 2000000000000 b c = r
  generalize mulV 2000000000000 b d = s
  cases vb (lo4 p q r s) (hi4 p q r s) <;> rfl
theorem v21_eq (a b c d : Int) : v21 a b c d = some (opV min a b c d) := by
  unfold v21 v37_3
  simp only [v27_eq, ok_some, val_some, cond_true, v53_3, v48, v50_eq, cond_nb, trip, opV]
  by_cases h1 : vb a b = true <;> by_cases h2 : vb c d = true <;> simp [h1, h2, of4]
  cases vb (lo4 (min a c) (min a d) (min b c) (min b d)) (hi4 (min a c) (min a d) (min b c) (min b d)) <;> rfl
theorem v23_eq (a b c d : Int) : v23 a b c d = some (opV max a b c d) := by
  unfold v23 v37_4
  simp only [v27_eq, ok_some, val_some, cond_true, v53_4, v49, v50_eq, cond_nb, trip, opV]
  by_cases h1 : vb a b = true <;> by_cases h2 : vb c d = true <;> simp [h1, h2, of4]
  cases vb (lo4 (max a c) (max a d) (max b c) (max b d)) (hi4 (max a c) (max a d) (max b c) (max b d)) <;> rfl
theorem f_bd' {a b : Int} (h1 : -1000000000000 ≤ a) (h2 : a ≤ 1000000000000) (hb : b ≠ 0) : -1000000000000 ≤ Int.fdiv a b ∧ Int.fdiv a b ≤ 1000000000000 := by
  have q := q_bd (b := b) h1 h2
  rw [fd hb]
  by_cases h : Int.tmod a b = 0
  · simp [h]; omega
  · have e : (Int.tdiv a b).natAbs * b.natAbs + (Int.tmod a b).natAbs = a.natAbs := by
      rw [Int.natAbs_tdiv, Int.natAbs_tmod]
      exact Nat.div_add_mod' ..
    have hb1 : 1 ≤ b.natAbs := by omega
    have hm := Nat.le_mul_of_pos_right (Int.tdiv a b).natAbs hb1
    have h0 : (Int.tmod a b).natAbs ≠ 0 := by omega
    cases (decide (Int.tmod a b ≠ 0) && (decide (a < 0) != decide (b < 0))) <;> simp only [cond_true, cond_false] <;> omega

/-- A quotient of intervals. -/
def dvV (f : Int → Int → Int) (a b c d : Int) : Int × Int × Int := cond (vb a b && vb c d) (cond (decide (c ≤ 0 ∧ 0 ≤ d)) (0, 0, 14) (lo4 (f a c) (f a d) (f b c) (f b d), hi4 (f a c) (f a d) (f b c) (f b d), 0)) (0, 0, 1)
/-- A quotient rounded up. -/
def up (a b : Int) : Int := -Int.fdiv (-a) b
theorem up_bd {a b : Int} (h1 : -1000000000000 ≤ a) (h2 : a ≤ 1000000000000) (hb : b ≠ 0) : -1000000000000 ≤ up a b ∧ up a b ≤ 1000000000000 := by
  have := f_bd' (a := -a) (by omega) (by omega) hb
  unfold up; omega
theorem lo_hi (p q r s : Int) : lo4 p q r s ≤ hi4 p q r s := by unfold lo4 hi4; omega
theorem of4_in {p q r s : Int} (h : -1000000000000 ≤ p ∧ p ≤ 1000000000000 ∧ -1000000000000 ≤ q ∧ q ≤ 1000000000000 ∧ -1000000000000 ≤ r ∧ r ≤ 1000000000000 ∧ -1000000000000 ≤ s ∧ s ≤ 1000000000000) : of4 p q r s = (lo4 p q r s, hi4 p q r s, 0) := by
  have := lo_bd h
  have := lo_hi p q r s
  unfold of4
  rw [vb_iff.2 (by omega)]; rfl

theorem v37_5_eq {a b c d : Int} (h1 : vb a b = true) (h2 : vb c d = true) (h3 : ¬(c ≤ 0 ∧ 0 ≤ d)) : v37_5 a b c d = some (lo4 (Int.fdiv a c) (Int.fdiv a d) (Int.fdiv b c) (Int.fdiv b d), hi4 (Int.fdiv a c) (Int.fdiv a d) (Int.fdiv b c) (Int.fdiv b d), 0) := by
  unfold v37_5
  have g1 := vb_iff.1 h1
  have g2 := vb_iff.1 h2
  simp only [v27_eq, ok_some, val_some, cond_true, v53_5, v50_eq, cond_nb, h1, h2]
  simp only [v44_eq (a := a) (b := c) (by omega) (by omega) (by omega), v44_eq (a := a) (b := d) (by omega) (by omega) (by omega), v44_eq (a := b) (b := c) (by omega) (by omega) (by omega), v44_eq (a := b) (b := d) (by omega) (by omega) (by omega), ok_some, cond_true, val_some]
  have := of4_in (p := Int.fdiv a c) (q := Int.fdiv a d) (r := Int.fdiv b c) (s := Int.fdiv b d) ⟨(f_bd' (by omega) (by omega) (by omega)).1, (f_bd' (by omega) (by omega) (by omega)).2, (f_bd' (by omega) (by omega) (by omega)).1, (f_bd' (by omega) (by omega) (by omega)).2, (f_bd' (by omega) (by omega) (by omega)).1, (f_bd' (by omega) (by omega) (by omega)).2, (f_bd' (by omega) (by omega) (by omega)).1, (f_bd' (by omega) (by omega) (by omega)).2⟩
  unfold of4 at this
  generalize Int.fdiv a c = p at *
  generalize Int.fdiv a d = q at *
  generalize Int.fdiv b c = r at *
  generalize Int.fdiv b d = s at *
  cases hv : vb (lo4 p q r s) (hi4 p q r s)
  · rw [hv] at this; exact absurd this (by simp)
  · rfl
theorem v37_6_eq {a b c d : Int} (h1 : vb a b = true) (h2 : vb c d = true) (h3 : ¬(c ≤ 0 ∧ 0 ≤ d)) : v37_6 a b c d = some (lo4 (up a c) (up a d) (up b c) (up b d), hi4 (up a c) (up a d) (up b c) (up b d), 0) := by
  unfold v37_6
  have g1 := vb_iff.1 h1
  have g2 := vb_iff.1 h2
  have e : ∀ x y : Int, -Int.fdiv (-x) y = up x y := fun _ _ => rfl
  simp only [v27_eq, ok_some, val_some, cond_true, v53_6, v50_eq, cond_nb, h1, h2]
  simp only [v47_eq (a := a) (b := c) (by omega) (by omega) (by omega), v47_eq (a := a) (b := d) (by omega) (by omega) (by omega), v47_eq (a := b) (b := c) (by omega) (by omega) (by omega), v47_eq (a := b) (b := d) (by omega) (by omega) (by omega), ok_some, cond_true, val_some, e]
  have := of4_in (p := up a c) (q := up a d) (r := up b c) (s := up b d) ⟨(up_bd (by omega) (by omega) (by omega)).1, (up_bd (by omega) (by omega) (by omega)).2, (up_bd (by omega) (by omega) (by omega)).1, (up_bd (by omega) (by omega) (by omega)).2, (up_bd (by omega) (by omega) (by omega)).1, (up_bd (by omega) (by omega) (by omega)).2, (up_bd (by omega) (by omega) (by omega)).1, (up_bd (by omega) (by omega) (by omega)).2⟩
  unfold of4 at this
  generalize up a c = p at *
  generalize up a d = q at *
  generalize up b c = r at *
  generalize up b d = s at *
  cases hv : vb (lo4 p q r s) (hi4 p q r s)
  · rw [hv] at this; exact absurd this (by simp)
  · rfl
theorem v17_eq (a b c d : Int) : v17 a b c d = some (dvV Int.fdiv a b c d) := by
  unfold v17 v43 dvV
  simp only [v27_eq, ok_some, val_some, cond_true, cond_nb, trip]
  by_cases h1 : vb a b = true <;> by_cases h2 : vb c d = true <;> simp [h1, h2]
  by_cases h3 : c ≤ 0 <;> by_cases h4 : 0 ≤ d
  · simp [h3, h4]
  · simp [h3, h4, v37_5_eq h1 h2 (by omega)]
  · simp [h3, h4, v37_5_eq h1 h2 (by omega)]
  · simp [h3, h4, v37_5_eq h1 h2 (by omega)]
theorem v19_eq (a b c d : Int) : v19 a b c d = some (dvV up a b c d) := by
  unfold v19 v43_1 dvV
  simp only [v27_eq, ok_some, val_some, cond_true, cond_nb, trip]
  by_cases h1 : vb a b = true <;> by_cases h2 : vb c d = true <;> simp [h1, h2]
  by_cases h3 : c ≤ 0 <;> by_cases h4 : 0 ≤ d
  · simp [h3, h4]
  · simp [h3, h4, v37_6_eq h1 h2 (by omega)]
  · simp [h3, h4, v37_6_eq h1 h2 (by omega)]
  · simp [h3, h4, v37_6_eq h1 h2 (by omega)]
/-- Joined. -/
def jnV (a b c d : Int) : Int × Int × Int := cond (vb a b && vb c d) (min a c, max b d, 0) (0, 0, 1)
theorem v25_eq (a b c d : Int) : v25 a b c d = some (jnV a b c d) := by
  unfold v25 jnV
  simp only [v27_eq, ok_some, val_some, cond_true, cond_nb, v50_eq]
  by_cases h1 : vb a b = true <;> by_cases h2 : vb c d = true <;> simp [h1, h2]
  rw [vb_iff] at h1 h2
  unfold lo4 hi4; omega

/-! ### The reference -/
theorem v12_eq (a b c d : Int) : v12 a b c d = some (opV (· + ·) a b c d) := by
  unfold v12 opV
  simp only [v28_eq, ok_some, val_some, cond_true, cond_nb, v39_eq, trip]
  by_cases h1 : vb a b = true <;> by_cases h2 : vb c d = true <;> simp [h1, h2]
  rw [vb_iff] at h1 h2
  rw [wrap_id (by omega) (by omega), wrap_id (by omega) (by omega)]
  unfold chk of4
  rw [show lo4 (a + c) (a + d) (b + c) (b + d) = a + c by unfold lo4; omega, show hi4 (a + c) (a + d) (b + c) (b + d) = b + d by unfold hi4; omega]
  congr 1
  rw [Bool.eq_iff_iff, Bool.and_eq_true, vb_iff, vb_iff, vb_iff]; omega
theorem v14_eq (a b c d : Int) : v14 a b c d = some (opV (· - ·) a b c d) := by
  unfold v14 opV
  simp only [v28_eq, ok_some, val_some, cond_true, cond_nb, v39_eq, trip]
  by_cases h1 : vb a b = true <;> by_cases h2 : vb c d = true <;> simp [h1, h2]
  rw [vb_iff] at h1 h2
  rw [wrap_id (by omega) (by omega), wrap_id (by omega) (by omega)]
  unfold chk of4
  rw [show lo4 (a - c) (a - d) (b - c) (b - d) = a - d by unfold lo4; omega, show hi4 (a - c) (a - d) (b - c) (b - d) = b - c by unfold hi4; omega]
  congr 1
  rw [Bool.eq_iff_iff, Bool.and_eq_true, vb_iff, vb_iff, vb_iff]; omega
theorem mul_cases (t a b : Int) : (mulV t a b = a * b ∧ -1000000000000 ≤ a * b ∧ a * b ≤ 1000000000000) ∨ (mulV t a b = t ∧ ¬(-1000000000000 ≤ a * b ∧ a * b ≤ 1000000000000)) := by
  unfold mulV
  by_cases h : -1000000000000 ≤ a * b ∧ a * b ≤ 1000000000000
  · simp [h]
  · simp [h]
theorem v16_eq (a b c d : Int) : v16 a b c d = some (opV (mulV 2000000000000) a b c d) := by
  unfold v16 opV
  simp only [v28_eq, ok_some, val_some, cond_true, cond_nb, v39_eq, trip, v42_eq]
  by_cases h1 : vb a b = true <;> by_cases h2 : vb c d = true <;> simp [h1, h2]
  rw [vb_iff] at h1 h2
  simp only [v36_eq (a := a) (b := c) (by omega) (by omega) (by omega) (by omega), v36_eq (a := a) (b := d) (by omega) (by omega) (by omega) (by omega), v36_eq (a := b) (b := c) (by omega) (by omega) (by omega) (by omega), v36_eq (a := b) (b := d) (by omega) (by omega) (by omega) (by omega), ok_some, cond_true, val_some]
  congr 1
  have e1 := mul_cases 2000000000000 a c; have e2 := mul_cases 2000000000000 a d; have e3 := mul_cases 2000000000000 b c; have e4 := mul_cases 2000000000000 b d
  have f1 := mul_cases 1000000000001 a c; have f2 := mul_cases 1000000000001 a d; have f3 := mul_cases 1000000000001 b c; have f4 := mul_cases 1000000000001 b d
  generalize mulV 2000000000000 a c = p at *; generalize mulV 2000000000000 a d = q at *; generalize mulV 2000000000000 b c = r at *; generalize mulV 2000000000000 b d = s at *
  generalize mulV 1000000000001 a c = p' at *; generalize mulV 1000000000001 a d = q' at *; generalize mulV 1000000000001 b c = r' at *; generalize mulV 1000000000001 b d = s' at *
  generalize a * c = ac at *; generalize a * d = ad at *; generalize b * c = bc at *; generalize b * d = bd at *
  unfold chk of4
  by_cases hh : p = p' ∧ q = q' ∧ r = r' ∧ s = s'
  · obtain ⟨rfl, rfl, rfl, rfl⟩ := hh
    have := lo_hi p q r s
    congr 1
    rw [Bool.eq_iff_iff, Bool.and_eq_true, vb_iff, vb_iff, vb_iff]; omega
  · have : hi4 p q r s = 2000000000000 := by unfold hi4; omega
    have : hi4 p' q' r' s' = 1000000000001 := by unfold hi4; omega
    have n1 : vb (lo4 p q r s) (hi4 p q r s) = false := by rw [Bool.eq_false_iff, ne_eq, vb_iff]; omega
    have n2 : vb (hi4 p' q' r' s') (hi4 p' q' r' s') = false := by rw [Bool.eq_false_iff, ne_eq, vb_iff]; omega
    rw [n1, n2, Bool.and_false]; rfl
theorem v45_eq (a b x : Int) : v45 a b x = some (decide (a ≤ x ∧ x ≤ b)) := by
  unfold v45
  by_cases h : a ≤ x <;> simp [h]
theorem v18_eq (a b c d : Int) : v18 a b c d = some (dvV Int.fdiv a b c d) := by
  unfold v18 dvV
  simp only [v28_eq, ok_some, val_some, cond_true, cond_nb, v45_eq, v42_eq]
  by_cases h1 : vb a b = true <;> by_cases h2 : vb c d = true <;> simp [h1, h2]
  rw [vb_iff] at h1 h2
  by_cases h3 : c ≤ 0 ∧ 0 ≤ d
  · simp [h3]
  · have h3' : (decide (c ≤ 0) && decide (0 ≤ d)) = false := by rw [Bool.eq_false_iff, ne_eq, Bool.and_eq_true, decide_eq_true_iff, decide_eq_true_iff]; exact h3
    simp only [h3', cond_false]
    simp only [v46_eq (a := a) (b := c) (by omega) (by omega) (by omega), v46_eq (a := a) (b := d) (by omega) (by omega) (by omega), v46_eq (a := b) (b := c) (by omega) (by omega) (by omega), v46_eq (a := b) (b := d) (by omega) (by omega) (by omega), ok_some, cond_true, val_some]
theorem v20_eq (a b c d : Int) : v20 a b c d = some (dvV up a b c d) := by
  unfold v20 dvV
  simp only [v28_eq, ok_some, val_some, cond_true, cond_nb, v45_eq, v42_eq]
  by_cases h1 : vb a b = true <;> by_cases h2 : vb c d = true <;> simp [h1, h2]
  rw [vb_iff] at h1 h2
  by_cases h3 : c ≤ 0 ∧ 0 ≤ d
  · simp [h3]
  · have h3' : (decide (c ≤ 0) && decide (0 ≤ d)) = false := by rw [Bool.eq_false_iff, ne_eq, Bool.and_eq_true, decide_eq_true_iff, decide_eq_true_iff]; exact h3
    simp only [h3', cond_false, Int.zero_sub]
    rw [wrap_id (x := -a) (by omega) (by omega), wrap_id (x := -b) (by omega) (by omega)]
    have e : ∀ {x y : Int}, -1000000000000 ≤ x → x ≤ 1000000000000 → y ≠ 0 → IntKind.wrap IntKind.i64 (-Int.fdiv (-x) y) = up x y := fun {x y} g1 g2 g3 => by
      have := f_bd' (a := -x) (by omega) (by omega) g3
      rw [wrap_id (by omega) (by omega)]; rfl
    simp only [v46_eq (a := -a) (b := c) (by omega) (by omega) (by omega), v46_eq (a := -a) (b := d) (by omega) (by omega) (by omega), v46_eq (a := -b) (b := c) (by omega) (by omega) (by omega), v46_eq (a := -b) (b := d) (by omega) (by omega) (by omega), ok_some, cond_true, val_some]
    rw [e (x := a) (y := c) (by omega) (by omega) (by omega), e (x := a) (y := d) (by omega) (by omega) (by omega), e (x := b) (y := c) (by omega) (by omega) (by omega), e (x := b) (y := d) (by omega) (by omega) (by omega)]
theorem mm_eq {a b c d : Int} (h1 : vb a b = true) (h2 : vb c d = true) : of4 (min a c) (min a d) (min b c) (min b d) = (min a c, min b d, 0) ∧ of4 (max a c) (max a d) (max b c) (max b d) = (max a c, max b d, 0) := by
  rw [vb_iff] at h1 h2
  constructor
  · rw [of4_in (by omega)]; unfold lo4 hi4
    rw [Prod.mk.injEq, Prod.mk.injEq]; omega
  · rw [of4_in (by omega)]; unfold lo4 hi4
    rw [Prod.mk.injEq, Prod.mk.injEq]; omega
theorem v22_eq (a b c d : Int) : v22 a b c d = some (opV min a b c d) := by
  unfold v22 opV
  simp only [v28_eq, ok_some, val_some, cond_true, cond_nb]
  by_cases h1 : vb a b = true <;> by_cases h2 : vb c d = true <;> simp [h1, h2]
  rw [(mm_eq h1 h2).1]
theorem v24_eq (a b c d : Int) : v24 a b c d = some (opV max a b c d) := by
  unfold v24 opV
  simp only [v28_eq, ok_some, val_some, cond_true, cond_nb]
  by_cases h1 : vb a b = true <;> by_cases h2 : vb c d = true <;> simp [h1, h2]
  rw [(mm_eq h1 h2).2]
theorem v26_eq (a b c d : Int) : v26 a b c d = some (jnV a b c d) := by
  unfold v26 jnV
  simp only [v28_eq, ok_some, val_some, cond_true, cond_nb]
  by_cases h1 : vb a b = true <;> by_cases h2 : vb c d = true <;> simp [h1, h2]
end Go.Proofs.Ytojbaamhnfinpaa
set_option linter.unusedVariables false
namespace Go.Proofs.Ytojbaamhnfinpaa
open Go Go.AM Go.TM Go.Proofs

/-- An operation's answers for numbers of two intervals lie between those for the ends. -/
def Btw (f : Int → Int → Int) (a b c d x y : Int) : Prop := lo4 (f a c) (f a d) (f b c) (f b d) ≤ f x y ∧ f x y ≤ hi4 (f a c) (f a d) (f b c) (f b d)

theorem btw_add {a b c d x y : Int} (h1 : a ≤ x) (h2 : x ≤ b) (h3 : c ≤ y) (h4 : y ≤ d) : Btw (· + ·) a b c d x y := by
  unfold Btw lo4 hi4; simp only; omega
theorem btw_sub {a b c d x y : Int} (h1 : a ≤ x) (h2 : x ≤ b) (h3 : c ≤ y) (h4 : y ≤ d) : Btw (· - ·) a b c d x y := by
  unfold Btw lo4 hi4; simp only; omega
theorem btw_min {a b c d x y : Int} (h1 : a ≤ x) (h2 : x ≤ b) (h3 : c ≤ y) (h4 : y ≤ d) : Btw min a b c d x y := by
  unfold Btw lo4 hi4; omega
theorem btw_max {a b c d x y : Int} (h1 : a ≤ x) (h2 : x ≤ b) (h3 : c ≤ y) (h4 : y ≤ d) : Btw max a b c d x y := by
  unfold Btw lo4 hi4; omega
/-- What grows or falls in each place lies between the ends. -/
theorem btw_mono {f : Int → Int → Int} {a b c d x y : Int} (h1 : f a y ≤ f x y ∧ f x y ≤ f b y ∨ f b y ≤ f x y ∧ f x y ≤ f a y) (h2 : f a c ≤ f a y ∧ f a y ≤ f a d ∨ f a d ≤ f a y ∧ f a y ≤ f a c) (h3 : f b c ≤ f b y ∧ f b y ≤ f b d ∨ f b d ≤ f b y ∧ f b y ≤ f b c) : Btw f a b c d x y := by
  unfold Btw lo4 hi4; omega
theorem mul_mono {a x b y : Int} (h1 : a ≤ x) (h2 : x ≤ b) : a * y ≤ x * y ∧ x * y ≤ b * y ∨ b * y ≤ x * y ∧ x * y ≤ a * y := by
  rcases Int.le_total 0 y with h | h
  · exact .inl ⟨Int.mul_le_mul_of_nonneg_right h1 h, Int.mul_le_mul_of_nonneg_right h2 h⟩
  · exact .inr ⟨Int.mul_le_mul_of_nonpos_right h2 h, Int.mul_le_mul_of_nonpos_right h1 h⟩
theorem btw_mul {a b c d x y : Int} (h1 : a ≤ x) (h2 : x ≤ b) (h3 : c ≤ y) (h4 : y ≤ d) : Btw (· * ·) a b c d x y := by
  refine btw_mono (mul_mono h1 h2) ?_ ?_
  · have := mul_mono (y := a) h3 h4
    simp only [Int.mul_comm a]; exact this
  · have := mul_mono (y := b) h3 h4
    simp only [Int.mul_comm b]; exact this

theorem fdiv_pos {x y : Int} (h : 0 < y) : Int.fdiv x y = x / y := Int.fdiv_eq_ediv_of_nonneg x (Int.le_of_lt h)
theorem fdiv_negs {x y : Int} : Int.fdiv x y = Int.fdiv (-x) (-y) := by rw [Int.neg_fdiv_neg]
theorem fdiv_up {x z y : Int} (hy : y ≠ 0) (h : x ≤ z) : (0 < y → Int.fdiv x y ≤ Int.fdiv z y) ∧ (y < 0 → Int.fdiv z y ≤ Int.fdiv x y) := by
  refine ⟨fun h0 => ?_, fun h0 => ?_⟩
  · rw [fdiv_pos h0, fdiv_pos h0]; exact Int.ediv_le_ediv h0 h
  · rw [fdiv_negs (x := z), fdiv_negs (x := x), fdiv_pos (by omega), fdiv_pos (by omega)]; exact Int.ediv_le_ediv (by omega) (by omega)
/-- A quotient as its divisor grows. -/
theorem ediv_den {x y z : Int} (h0 : 0 < y) (h : y ≤ z) : (0 ≤ x → x / z ≤ x / y) ∧ (x < 0 → x / y ≤ x / z) := by
  have hz : 0 < z := by omega
  refine ⟨fun hx => ?_, fun hx => ?_⟩
  · rw [Int.le_ediv_iff_mul_le h0]
    have h1 : 0 ≤ x / z := Int.ediv_nonneg hx (by omega)
    have h2 : x / z * y ≤ x / z * z := Int.mul_le_mul_of_nonneg_left h h1
    have h3 := Int.ediv_mul_le x (show z ≠ 0 by omega)
    omega
  · rw [Int.le_ediv_iff_mul_le hz]
    have h1 : x / y < 0 := Int.ediv_neg_of_neg_of_pos hx h0
    have h2 : x / y * z ≤ x / y * y := Int.mul_le_mul_of_nonpos_left (by omega) h
    have h3 := Int.ediv_mul_le x (show y ≠ 0 by omega)
    omega
theorem fdiv_den {x c y d : Int} (h0 : ¬(c ≤ 0 ∧ 0 ≤ d)) (h1 : c ≤ y) (h2 : y ≤ d) : Int.fdiv x c ≤ Int.fdiv x y ∧ Int.fdiv x y ≤ Int.fdiv x d ∨ Int.fdiv x d ≤ Int.fdiv x y ∧ Int.fdiv x y ≤ Int.fdiv x c := by
  by_cases hc : 0 < c
  · rw [fdiv_pos hc, fdiv_pos (by omega), fdiv_pos (by omega)]
    have e1 := ediv_den (x := x) hc h1
    have e2 := ediv_den (x := x) (y := y) (by omega) h2
    rcases Int.lt_or_le x 0 with hx | hx
    · exact .inl ⟨e1.2 hx, e2.2 hx⟩
    · exact .inr ⟨e2.1 hx, e1.1 hx⟩
  · rw [fdiv_negs (y := c), fdiv_negs (y := y), fdiv_negs (y := d), fdiv_pos (by omega), fdiv_pos (by omega), fdiv_pos (by omega)]
    have e1 := ediv_den (x := -x) (y := -d) (z := -y) (by omega) (by omega)
    have e2 := ediv_den (x := -x) (y := -y) (z := -c) (by omega) (by omega)
    rcases Int.lt_or_le (-x) 0 with hx | hx
    · exact .inr ⟨e1.2 hx, e2.2 hx⟩
    · exact .inl ⟨e2.1 hx, e1.1 hx⟩
theorem btw_fdiv {a b c d x y : Int} (h0 : ¬(c ≤ 0 ∧ 0 ≤ d)) (h1 : a ≤ x) (h2 : x ≤ b) (h3 : c ≤ y) (h4 : y ≤ d) : Btw Int.fdiv a b c d x y := by
  have hy : y ≠ 0 := by omega
  refine btw_mono ?_ (fdiv_den h0 h3 h4) (fdiv_den h0 h3 h4)
  rcases Int.lt_or_gt_of_ne hy with h | h
  · exact .inr ⟨(fdiv_up hy h2).2 h, (fdiv_up hy h1).2 h⟩
  · exact .inl ⟨(fdiv_up hy h1).1 h, (fdiv_up hy h2).1 h⟩
theorem btw_up {a b c d x y : Int} (h0 : ¬(c ≤ 0 ∧ 0 ≤ d)) (h1 : a ≤ x) (h2 : x ≤ b) (h3 : c ≤ y) (h4 : y ≤ d) : Btw up a b c d x y := by
  have := btw_fdiv (a := -b) (b := -a) (x := -x) h0 (by omega) (by omega) h3 h4
  unfold Btw lo4 hi4 at *
  unfold up
  omega
end Go.Proofs.Ytojbaamhnfinpaa
set_option linter.unusedVariables false
namespace Go.Proofs.Ytojbaamhnfinpaa
open Go Go.AM Go.TM Go.Proofs

theorem wrapu_id {x : Int} (h1 : 0 ≤ x) (h2 : x ≤ 18446744073709551615) : IntKind.wrap IntKind.u64 x = x := by
  simp [IntKind.wrap, IntKind.bits, IntKind.signed]
  omega
/-- The number that is picked. -/
def pk (a b n : Int) : Int := a + n % (b - a + 1)
theorem pk_in {a b n : Int} (h : a ≤ b) : a ≤ pk a b n ∧ pk a b n ≤ b := by
  unfold pk
  have h1 := Int.emod_nonneg n (show b - a + 1 ≠ 0 by omega)
  have h2 := Int.emod_lt_of_pos n (show 0 < b - a + 1 by omega)
  omega
theorem v29_eq {a b n : Int} (h : vb a b = true) (hn : 0 ≤ n) : v29 a b n = some (pk a b n) := by
  have hp := pk_in (n := n) (vb_iff.1 h).2.2.2.2
  rw [vb_iff] at h
  have h1 := Int.emod_nonneg n (show b - a + 1 ≠ 0 by omega)
  have h2 := Int.emod_lt_of_pos n (show 0 < b - a + 1 by omega)
  unfold v29
  rw [wrap_id (x := b - a) (by omega) (by omega), wrap_id (x := b - a + 1) (by omega) (by omega), wrapu_id (by omega) (by omega), Int.tmod_eq_emod_of_nonneg hn, wrap_id (x := n % (b - a + 1)) (by omega) (by omega)]
  unfold pk at *
  rw [wrap_id (by omega) (by omega), show decide (b - a + 1 ≠ 0) = true by rw [decide_eq_true_iff]; omega]
  rfl
theorem v30_eq (a b e x : Int) : v30 a b e x = some (decide (e = 0 ∧ a ≤ x ∧ x ≤ b)) := by
  unfold v30
  rw [show (e == (0 : Int)) = decide (e = 0) from rfl]
  by_cases h1 : e = 0 <;> by_cases h2 : a ≤ x <;> simp [h1, h2]
theorem v33_eq (a b e c d f : Int) : v33 a b e c d f = some (decide (f ≠ 0 ∨ e = 0 ∧ c ≤ a ∧ b ≤ d)) := by
  unfold v33
  rw [show (e == (0 : Int)) = decide (e = 0) from rfl, show (f != (0 : Int)) = !decide (f = 0) from rfl]
  by_cases h0 : f = 0 <;> by_cases h1 : e = 0 <;> by_cases h2 : c ≤ a <;> simp [h0, h1, h2]
end Go.Proofs.Ytojbaamhnfinpaa
set_option linter.unusedVariables false
namespace Go.Proofs.Ytojbaamhnfinpaa
open Go Go.AM Go.TM Go.Proofs

/-- A result is within another one, unless that is an error. -/
def Wth (x y : Int × Int × Int) : Prop := y.2.2 ≠ 0 ∨ x.2.2 = 0 ∧ y.1 ≤ x.1 ∧ x.2.1 ≤ y.2.1
/-- Narrower ones of two valid intervals. -/
structure Nar (a b c d p q r s : Int) : Prop where
  h1 : vb a b = true
  h2 : vb c d = true
  a1 : a ≤ p
  a2 : p ≤ q
  a3 : q ≤ b
  b1 : c ≤ r
  b2 : r ≤ s
  b3 : s ≤ d
variable {a b c d p q r s : Int}
theorem Nar.g1 (h : Nar a b c d p q r s) : -1000000000000 ≤ a ∧ a ≤ 1000000000000 ∧ -1000000000000 ≤ b ∧ b ≤ 1000000000000 ∧ a ≤ b := vb_iff.1 h.h1
theorem Nar.g2 (h : Nar a b c d p q r s) : -1000000000000 ≤ c ∧ c ≤ 1000000000000 ∧ -1000000000000 ≤ d ∧ d ≤ 1000000000000 ∧ c ≤ d := vb_iff.1 h.h2
theorem Nar.n1 (h : Nar a b c d p q r s) : vb p q = true := by
  obtain ⟨h1, h2, a1, a2, a3, b1, b2, b3⟩ := h
  rw [vb_iff] at *; omega
theorem Nar.n2 (h : Nar a b c d p q r s) : vb r s = true := by
  obtain ⟨h1, h2, a1, a2, a3, b1, b2, b3⟩ := h
  rw [vb_iff] at *; omega
theorem of4_wth {lo hi x y z w : Int} (h : vb lo hi = true) (h1 : lo ≤ x ∧ x ≤ hi) (h2 : lo ≤ y ∧ y ≤ hi) (h3 : lo ≤ z ∧ z ≤ hi) (h4 : lo ≤ w ∧ w ≤ hi) : (of4 x y z w).2.2 = 0 ∧ lo ≤ (of4 x y z w).1 ∧ (of4 x y z w).2.1 ≤ hi := by
  have hb := lo_bd (p := x) (q := y) (r := z) (s := w) (m := lo) (M := hi) ⟨h1.1, h1.2, h2.1, h2.2, h3.1, h3.2, h4.1, h4.2⟩
  have := lo_hi x y z w
  rw [vb_iff] at h
  rw [of4_in (by omega)]
  exact ⟨rfl, hb.1, hb.2.2.2⟩
theorem of4_ok {x y z w : Int} (h : vb (lo4 x y z w) (hi4 x y z w) = true) : of4 x y z w = (lo4 x y z w, hi4 x y z w, 0) := by
  unfold of4; rw [h]; rfl
theorem op_wth {f : Int → Int → Int} (h : Nar a b c d p q r s) (hf : ∀ x y, a ≤ x → x ≤ b → c ≤ y → y ≤ d → Btw f a b c d x y) : Wth (opV f p q r s) (opV f a b c d) := by
  unfold opV Wth
  rw [h.n1, h.n2, h.h1, h.h2]
  simp only [Bool.and_self, cond_true]
  obtain ⟨_, _, a1, a2, a3, b1, b2, b3⟩ := h
  cases hv : vb (lo4 (f a c) (f a d) (f b c) (f b d)) (hi4 (f a c) (f a d) (f b c) (f b d))
  · left; unfold of4; rw [hv]; simp
  · right
    rw [of4_ok hv]
    exact of4_wth hv (hf p r (by omega) (by omega) (by omega) (by omega)) (hf p s (by omega) (by omega) (by omega) (by omega)) (hf q r (by omega) (by omega) (by omega) (by omega)) (hf q s (by omega) (by omega) (by omega) (by omega))
/-- Products: each is a value, or one is none and the answer an error. -/
theorem mul_err {a b c d : Int} : vb (lo4 (mulV 2000000000000 a c) (mulV 2000000000000 a d) (mulV 2000000000000 b c) (mulV 2000000000000 b d)) (hi4 (mulV 2000000000000 a c) (mulV 2000000000000 a d) (mulV 2000000000000 b c) (mulV 2000000000000 b d)) = true →
    (mulV 2000000000000 a c = a * c ∧ mulV 2000000000000 a d = a * d ∧ mulV 2000000000000 b c = b * c ∧ mulV 2000000000000 b d = b * d) ∧ vb (lo4 (a * c) (a * d) (b * c) (b * d)) (hi4 (a * c) (a * d) (b * c) (b * d)) = true := by
  intro h
  have h' := vb_iff.1 h
  have e1 := mul_cases 2000000000000 a c; have e2 := mul_cases 2000000000000 a d; have e3 := mul_cases 2000000000000 b c; have e4 := mul_cases 2000000000000 b d
  have hh : mulV 2000000000000 a c = a * c ∧ mulV 2000000000000 a d = a * d ∧ mulV 2000000000000 b c = b * c ∧ mulV 2000000000000 b d = b * d := by
    generalize mulV 2000000000000 a c = p at *; generalize mulV 2000000000000 a d = q at *; generalize mulV 2000000000000 b c = r at *; generalize mulV 2000000000000 b d = s at *
    unfold lo4 hi4 at h'
    omega
  refine ⟨hh, ?_⟩
  rw [hh.1, hh.2.1, hh.2.2.1, hh.2.2.2] at h
  exact h
theorem mul_val {a b c d x y : Int} (hv : vb (lo4 (a * c) (a * d) (b * c) (b * d)) (hi4 (a * c) (a * d) (b * c) (b * d)) = true) (h1 : a ≤ x) (h2 : x ≤ b) (h3 : c ≤ y) (h4 : y ≤ d) : mulV 2000000000000 x y = x * y := by
  have hb := btw_mul h1 h2 h3 h4
  unfold Btw at hb
  simp only at hb
  rw [vb_iff] at hv
  unfold mulV
  rw [decide_eq_true (by omega)]; rfl
theorem mul_wth (h : Nar a b c d p q r s) : Wth (opV (mulV 2000000000000) p q r s) (opV (mulV 2000000000000) a b c d) := by
  unfold opV Wth
  rw [h.n1, h.n2, h.h1, h.h2]
  simp only [Bool.and_self, cond_true]
  obtain ⟨_, _, a1, a2, a3, b1, b2, b3⟩ := h
  cases hv : vb (lo4 (mulV 2000000000000 a c) (mulV 2000000000000 a d) (mulV 2000000000000 b c) (mulV 2000000000000 b d)) (hi4 (mulV 2000000000000 a c) (mulV 2000000000000 a d) (mulV 2000000000000 b c) (mulV 2000000000000 b d))
  · left; unfold of4; rw [hv]; simp
  · right
    obtain ⟨⟨e1, e2, e3, e4⟩, hw⟩ := mul_err hv
    rw [e1, e2, e3, e4, mul_val (x := p) (y := r) hw (by omega) (by omega) (by omega) (by omega), mul_val (x := p) (y := s) hw (by omega) (by omega) (by omega) (by omega), mul_val (x := q) (y := r) hw (by omega) (by omega) (by omega) (by omega), mul_val (x := q) (y := s) hw (by omega) (by omega) (by omega) (by omega)]
    rw [of4_ok hw]
    exact of4_wth hw (btw_mul (by omega) (by omega) (by omega) (by omega)) (btw_mul (by omega) (by omega) (by omega) (by omega)) (btw_mul (by omega) (by omega) (by omega) (by omega)) (btw_mul (by omega) (by omega) (by omega) (by omega))
theorem dv_wth {f : Int → Int → Int} (h : Nar a b c d p q r s) (hf : ¬(c ≤ 0 ∧ 0 ≤ d) → ∀ x y, a ≤ x → x ≤ b → c ≤ y → y ≤ d → Btw f a b c d x y) : Wth (dvV f p q r s) (dvV f a b c d) := by
  unfold dvV Wth
  rw [h.n1, h.n2, h.h1, h.h2]
  simp only [Bool.and_self, cond_true]
  obtain ⟨_, _, a1, a2, a3, b1, b2, b3⟩ := h
  by_cases h0 : c ≤ 0 ∧ 0 ≤ d
  · left; rw [decide_eq_true h0]; simp
  · right
    rw [decide_eq_false h0, decide_eq_false (show ¬(r ≤ 0 ∧ 0 ≤ s) by omega)]
    have k1 := hf h0 p r (by omega) (by omega) (by omega) (by omega)
    have k2 := hf h0 p s (by omega) (by omega) (by omega) (by omega)
    have k3 := hf h0 q r (by omega) (by omega) (by omega) (by omega)
    have k4 := hf h0 q s (by omega) (by omega) (by omega) (by omega)
    unfold Btw at *
    have hb := lo_bd (p := f p r) (q := f p s) (r := f q r) (s := f q s) (m := lo4 (f a c) (f a d) (f b c) (f b d)) (M := hi4 (f a c) (f a d) (f b c) (f b d)) ⟨k1.1, k1.2, k2.1, k2.2, k3.1, k3.2, k4.1, k4.2⟩
    exact ⟨rfl, hb.1, hb.2.2.2⟩
theorem jn_wth (h : Nar a b c d p q r s) : Wth (jnV p q r s) (jnV a b c d) := by
  unfold jnV Wth
  rw [h.n1, h.n2, h.h1, h.h2]
  obtain ⟨_, _, a1, a2, a3, b1, b2, b3⟩ := h
  simp only [Bool.and_self, cond_true]
  right; refine ⟨trivial, ?_, ?_⟩ <;> omega
theorem v33_wth {x y : Int × Int × Int} (h : Wth x y) : v33 x.1 x.2.1 x.2.2 y.1 y.2.1 y.2.2 = some true := by
  rw [v33_eq, decide_eq_true (by unfold Wth at h; omega)]
end Go.Proofs.Ytojbaamhnfinpaa
set_option linter.unusedVariables false
namespace Go.Proofs.Ytojbaamhnfinpaa
open Go Go.AM Go.TM Go.Proofs

theorem v31_eq {a b : Int} (h1 : -1000000000000 ≤ a) (h2 : a ≤ 1000000000000) (hb : b ≠ 0) : v31 a b = some (Int.fdiv a b) := by
  have q := q_bd (b := b) h1 h2
  have hl := qb_bd (b := b) h1 h2
  have e := Int.mul_tdiv_add_tmod a b
  have n1 : 0 ≤ a → 0 ≤ Int.tmod a b := fun h => Int.tmod_nonneg b h
  have n2 : a < 0 → Int.tmod a b ≤ 0 := fun h => by
    have h := Int.tmod_nonneg b (show 0 ≤ -a by omega)
    rw [Int.neg_tmod] at h
    omega
  rw [Int.mul_comm] at e
  unfold v31
  rw [fd hb]
  simp only [wrap_id (x := Int.tdiv a b) (by omega) (by omega), wrap_id (x := Int.tdiv a b * b) (by omega) (by omega), wrap_id (x := Int.tdiv a b - 1) (by omega) (by omega)]
  generalize Int.tdiv a b * b = z at *
  generalize Int.tdiv a b = w at *
  generalize Int.tmod a b = t at *
  rw [show decide (b ≠ 0) = true by simpa using hb]
  by_cases c1 : a < 0 <;> by_cases c2 : b < 0 <;> by_cases c3 : t = 0
  all_goals
    have e1 : decide (z > a) = decide (t < 0) := by congr 1; apply propext; omega
    have e2 : decide (z < a) = decide (t > 0) := by congr 1; apply propext; omega
    rw [e1, e2]
    by_cases c4 : t < 0 <;> by_cases c5 : 0 < t <;> by_cases c6 : 0 < b <;> first | omega | simp [c1, c2, c3, c4, c5, c6]
end Go.Proofs.Ytojbaamhnfinpaa
set_option linter.unusedVariables false
namespace Go.Proofs.Ytojbaamhnfinpaa
open Go Go.AM Go.TM Go.Proofs
/-- The result of an operation for two numbers. -/
def RR (op x y r : Int) : Prop :=
  (op = 0 ∧ r = IntKind.wrap IntKind.i64 (x + y)) ∨ (op = 1 ∧ r = IntKind.wrap IntKind.i64 (x - y)) ∨ (op = 2 ∧ r = IntKind.wrap IntKind.i64 (x * y)) ∨ (op = 3 ∧ v31 x y = some r) ∨
  (op = 4 ∧ ∃ t, v31 (IntKind.wrap IntKind.i64 ((0 : Int) - x)) y = some t ∧ r = IntKind.wrap IntKind.i64 ((0 : Int) - t))
theorem st40 {op x y r : Int} (h : RR op x y r) (n : Nat) (u z lo hi : Bool) {e f g m i a b c d p q : Int} {l l2 : List Int} (hi1 : i < m) (h0 : 0 ≤ i) (hl : i < (l.length : Int)) (hy : l.getD i.toNat 0 = y) :
    L5_40_0 (n + 1) u z op lo hi x e f g m i a b c d p q l l2 = L5_40_0 n u z op (lo || r == p) (hi || r == q) x e f g m (IntKind.wrap IntKind.i64 (i + 1)) a b c d p q l l2 := by
  rw [qL5_40_0, decide_eq_true hi1, decide_eq_true h0, decide_eq_true hl, decide_eq_true (show i.toNat < l.length by omega)]
  simp only [cond_true, hy]
  rcases h with ⟨rfl, rfl⟩ | ⟨rfl, rfl⟩ | ⟨rfl, rfl⟩ | ⟨rfl, k⟩ | ⟨rfl, t, k, rfl⟩
  · rw [show ((0 : Int) == 0) = true from rfl]; simp only [cond_true]
    cases lo <;> cases hi <;> rfl
  · rw [show ((1 : Int) == 0) = false from rfl, show ((1 : Int) == 1) = true from rfl]; simp only [cond_true, cond_false]
    cases lo <;> cases hi <;> rfl
  · rw [show ((2 : Int) == 0) = false from rfl, show ((2 : Int) == 1) = false from rfl, show ((2 : Int) == 2) = true from rfl]; simp only [cond_true, cond_false]
    cases lo <;> cases hi <;> rfl
  · rw [show ((3 : Int) == 0) = false from rfl, show ((3 : Int) == 1) = false from rfl, show ((3 : Int) == 2) = false from rfl, show ((3 : Int) == 3) = true from rfl]; simp only [cond_true, cond_false, k, ok_some, val_some]
    cases lo <;> cases hi <;> rfl
  · rw [show ((4 : Int) == 0) = false from rfl, show ((4 : Int) == 1) = false from rfl, show ((4 : Int) == 2) = false from rfl, show ((4 : Int) == 3) = false from rfl]; simp only [cond_true, cond_false, k, ok_some, val_some]
    cases lo <;> cases hi <;> rfl
theorem FU3 : FU = 18446744073709551613 + 1 + 1 + 1 := rfl
theorem l5_212 {op x c d r1 r2 : Int} (h1 : RR op x c r1) (h2 : RR op x d r2) (u z lo hi : Bool) (e f g a b p q : Int) (l2 : List Int) :
    L5_212_0 u z op lo hi x e f g a b c d p q l2 = some (lo || r1 == p || r2 == p, hi || r1 == q || r2 == q) := by
  have k : L5_40_0 FU u z op lo hi x e f g (↑(List.length [c, d]) : Int) (0 : Int) a b c d p q [c, d] l2 = some (lo || r1 == p || r2 == p, hi || r1 == q || r2 == q) := by
    rw [FU3, st40 h1 _ u z lo hi (show (0 : Int) < (↑(List.length [c, d]) : Int) from of_decide_eq_true rfl) (by decide) (of_decide_eq_true rfl) rfl, show IntKind.wrap IntKind.i64 (0 + 1) = 1 from rfl,
      st40 h2 _ u z _ _ (show (1 : Int) < (↑(List.length [c, d]) : Int) from of_decide_eq_true rfl) (by decide) (of_decide_eq_true rfl) rfl, show IntKind.wrap IntKind.i64 (1 + 1) = 2 from rfl, qL5_40_0]
    rfl
  unfold L5_212_0
  rw [k]; rfl
theorem st24 {op x c d r1 r2 : Int} (h1 : RR op x c r1) (h2 : RR op x d r2) (n : Nat) (u z lo hi : Bool) {f m i a b p q : Int} {l : List Int} (hi1 : i < m) (h0 : 0 ≤ i) (hl : i < (l.length : Int)) (hy : l.getD i.toNat 0 = x) :
    L5_24_0 (n + 1) u z op lo hi f m i a b c d p q l = L5_24_0 n u z op (lo || r1 == p || r2 == p) (hi || r1 == q || r2 == q) f m (IntKind.wrap IntKind.i64 (i + 1)) a b c d p q l := by
  rw [qL5_24_0, decide_eq_true hi1, decide_eq_true h0, decide_eq_true hl, decide_eq_true (show i.toNat < l.length by omega)]
  simp only [cond_true, hy, l5_212 h1 h2, ok_some, val_some]
/-- The ends of an interval are results. -/
def Good (op a b c d p q : Int) : Prop := ∃ r1 r2 r3 r4, RR op a c r1 ∧ RR op a d r2 ∧ RR op b c r3 ∧ RR op b d r4 ∧ (p = r1 ∨ p = r2 ∨ p = r3 ∨ p = r4) ∧ (q = r1 ∨ q = r2 ∨ q = r3 ∨ q = r4)
theorem l5_188 {op a b c d p q : Int} (h : Good op a b c d p q) (z : Bool) (e : Int) : L5_188_0 true z op false false e a b c d p q = some true := by
  obtain ⟨r1, r2, r3, r4, h1, h2, h3, h4, hp, hq⟩ := h
  have k : L5_24_0 FU true z op false false e (↑(List.length [a, b]) : Int) (0 : Int) a b c d p q [a, b] = some (false || r1 == p || r2 == p || r3 == p || r4 == p, false || r1 == q || r2 == q || r3 == q || r4 == q) := by
    rw [FU3, st24 h1 h2 _ true z false false (show (0 : Int) < (↑(List.length [a, b]) : Int) from of_decide_eq_true rfl) (by decide) (of_decide_eq_true rfl) rfl, show IntKind.wrap IntKind.i64 (0 + 1) = 1 from rfl,
      st24 h3 h4 _ true z _ _ (show (1 : Int) < (↑(List.length [a, b]) : Int) from of_decide_eq_true rfl) (by decide) (of_decide_eq_true rfl) rfl, show IntKind.wrap IntKind.i64 (1 + 1) = 2 from rfl, qL5_24_0]
    rfl
  have kp : (false || r1 == p || r2 == p || r3 == p || r4 == p) = true := by rcases hp with rfl | rfl | rfl | rfl <;> simp
  have kq : (false || r1 == q || r2 == q || r3 == q || r4 == q) = true := by rcases hq with rfl | rfl | rfl | rfl <;> simp
  rw [kp, kq] at k
  unfold L5_188_0
  rw [k]; rfl
theorem l5_164 {op e a b c d p q : Int} {z : Bool} (h : e ≠ 0 ∨ (e = 0 ∧ (op ≥ 3 → z = false) ∧ Good op a b c d p q)) (i : Int) : L5_164_0 true z op e i a b c d p q = some (.inl true) ∨ L5_164_0 true z op e i a b c d p q = some (.inr true) := by
  unfold L5_164_0
  rcases h with h | ⟨rfl, hz, h⟩
  · left; rw [show (e != 0) = true by simpa using h]; rfl
  · right
    rw [show ((0 : Int) != 0) = false from rfl, l5_188 h]
    by_cases h3 : op ≥ 3
    · rw [hz h3, decide_eq_true h3]; rfl
    · rw [decide_eq_false h3]; rfl
theorem lo4_mem (p q r s : Int) : lo4 p q r s = p ∨ lo4 p q r s = q ∨ lo4 p q r s = r ∨ lo4 p q r s = s := by unfold lo4; omega
theorem hi4_mem (p q r s : Int) : hi4 p q r s = p ∨ hi4 p q r s = q ∨ hi4 p q r s = r ∨ hi4 p q r s = s := by unfold hi4; omega
section
variable {a b c d : Int} {z : Bool}
theorem good_of4 {op : Int} {f : Int → Int → Int} (hv : vb (lo4 (f a c) (f a d) (f b c) (f b d)) (hi4 (f a c) (f a d) (f b c) (f b d)) = true) (h : ∀ x y, -1000000000000 ≤ f x y → f x y ≤ 1000000000000 → RR op x y (f x y)) : Good op a b c d (lo4 (f a c) (f a d) (f b c) (f b d)) (hi4 (f a c) (f a d) (f b c) (f b d)) := by
  have g := vb_iff.1 hv
  have l1 := lo4_mem (f a c) (f a d) (f b c) (f b d)
  have l2 := hi4_mem (f a c) (f a d) (f b c) (f b d)
  unfold lo4 hi4 at g
  exact ⟨f a c, f a d, f b c, f b d, h _ _ (by omega) (by omega), h _ _ (by omega) (by omega), h _ _ (by omega) (by omega), h _ _ (by omega) (by omega), l1, l2⟩
theorem g_op {op : Int} {f : Int → Int → Int} (h1 : vb a b = true) (h2 : vb c d = true) (h3 : op < 3) (h : ∀ x y, -1000000000000 ≤ f x y → f x y ≤ 1000000000000 → RR op x y (f x y)) :
    (opV f a b c d).2.2 ≠ 0 ∨ ((opV f a b c d).2.2 = 0 ∧ (op ≥ 3 → z = false) ∧ Good op a b c d (opV f a b c d).1 (opV f a b c d).2.1) := by
  unfold opV
  rw [h1, h2]
  simp only [Bool.and_self, cond_true]
  cases hv : vb (lo4 (f a c) (f a d) (f b c) (f b d)) (hi4 (f a c) (f a d) (f b c) (f b d))
  · left; unfold of4; rw [hv]; simp
  · right
    rw [of4_ok hv]
    exact ⟨rfl, fun h => by omega, good_of4 hv h⟩
theorem g_mul (h1 : vb a b = true) (h2 : vb c d = true) :
    (opV (mulV 2000000000000) a b c d).2.2 ≠ 0 ∨ ((opV (mulV 2000000000000) a b c d).2.2 = 0 ∧ ((2 : Int) ≥ 3 → z = false) ∧ Good 2 a b c d (opV (mulV 2000000000000) a b c d).1 (opV (mulV 2000000000000) a b c d).2.1) := by
  unfold opV
  rw [h1, h2]
  simp only [Bool.and_self, cond_true]
  cases hv : vb (lo4 (mulV 2000000000000 a c) (mulV 2000000000000 a d) (mulV 2000000000000 b c) (mulV 2000000000000 b d)) (hi4 (mulV 2000000000000 a c) (mulV 2000000000000 a d) (mulV 2000000000000 b c) (mulV 2000000000000 b d))
  · left; unfold of4; rw [hv]; simp
  · right
    obtain ⟨⟨e1, e2, e3, e4⟩, hw⟩ := mul_err hv
    rw [e1, e2, e3, e4, of4_ok hw]
    exact ⟨rfl, fun h => by omega, good_of4 (f := (· * ·)) hw fun x y k1 k2 => .inr (.inr (.inl ⟨rfl, (wrap_id (x := x * y) (by omega) (by omega)).symm⟩))⟩
theorem g_dv {op : Int} {f : Int → Int → Int} (h1 : vb a b = true) (h2 : vb c d = true) (hz : z = decide (c ≤ 0 ∧ 0 ≤ d)) (h : ∀ x y, -1000000000000 ≤ x → x ≤ 1000000000000 → y ≠ 0 → RR op x y (f x y)) :
    (dvV f a b c d).2.2 ≠ 0 ∨ ((dvV f a b c d).2.2 = 0 ∧ (op ≥ 3 → z = false) ∧ Good op a b c d (dvV f a b c d).1 (dvV f a b c d).2.1) := by
  have g1 := vb_iff.1 h1
  have g2 := vb_iff.1 h2
  unfold dvV
  rw [h1, h2]
  simp only [Bool.and_self, cond_true]
  by_cases h0 : c ≤ 0 ∧ 0 ≤ d
  · left; rw [decide_eq_true h0]; simp
  · right
    rw [decide_eq_false h0]
    refine ⟨rfl, fun _ => by rw [hz, decide_eq_false h0], f a c, f a d, f b c, f b d, h _ _ (by omega) (by omega) (by omega), h _ _ (by omega) (by omega) (by omega), h _ _ (by omega) (by omega) (by omega), h _ _ (by omega) (by omega) (by omega), lo4_mem _ _ _ _, hi4_mem _ _ _ _⟩
theorem rr_up (x y : Int) (h1 : -1000000000000 ≤ x) (h2 : x ≤ 1000000000000) (hy : y ≠ 0) : RR 4 x y (up x y) := by
  have q := f_bd (a := -x) (b := y) (by omega) (by omega) hy
  refine .inr (.inr (.inr (.inr ⟨rfl, Int.fdiv (-x) y, ?_, ?_⟩)))
  · rw [wrap_id (x := 0 - x) (by omega) (by omega), Int.zero_sub]; exact v31_eq (by omega) (by omega) hy
  · rw [wrap_id (x := 0 - Int.fdiv (-x) y) (by omega) (by omega), Int.zero_sub]; rfl
theorem l5_0 (h1 : vb a b = true) (h2 : vb c d = true) (hz : z = decide (c ≤ 0 ∧ 0 ≤ d)) : L5_0_0 FU true z 0 a b c d = some true := by
  have s0 := l5_164 (g_op (z := z) (op := 0) (f := (· + ·)) h1 h2 (by omega) fun x y k1 k2 => .inl ⟨rfl, (wrap_id (x := x + y) (by omega) (by omega)).symm⟩) 0
  have s1 := l5_164 (g_op (z := z) (op := 1) (f := (· - ·)) h1 h2 (by omega) fun x y k1 k2 => .inr (.inl ⟨rfl, (wrap_id (x := x - y) (by omega) (by omega)).symm⟩)) 1
  have s2 := l5_164 (g_mul (z := z) h1 h2) 2
  have s3 := l5_164 (g_dv (z := z) (op := 3) (f := Int.fdiv) h1 h2 hz fun x y k1 k2 hy => .inr (.inr (.inr (.inl ⟨rfl, v31_eq k1 k2 hy⟩)))) 3
  have s4 := l5_164 (g_dv (z := z) (op := 4) (f := up) h1 h2 hz rr_up) 4
  have q0 : ∀ n, L5_0_0 (n + 1) true z 0 a b c d = L5_0_0 n true z 1 a b c d := fun n => by
    rw [qL5_0_0]; simp only [v11_eq, ok_some, val_some, cond_true]; rcases s0 with k | k <;> rw [k] <;> rfl
  have q1 : ∀ n, L5_0_0 (n + 1) true z 1 a b c d = L5_0_0 n true z 2 a b c d := fun n => by
    rw [qL5_0_0]; simp only [v13_eq, ok_some, val_some, cond_true]; rcases s1 with k | k <;> rw [k] <;> rfl
  have q2 : ∀ n, L5_0_0 (n + 1) true z 2 a b c d = L5_0_0 n true z 3 a b c d := fun n => by
    rw [qL5_0_0]; simp only [v15_eq, ok_some, val_some, cond_true]; rcases s2 with k | k <;> rw [k] <;> rfl
  have q3 : ∀ n, L5_0_0 (n + 1) true z 3 a b c d = L5_0_0 n true z 4 a b c d := fun n => by
    rw [qL5_0_0]; simp only [v17_eq, ok_some, val_some, cond_true]; rcases s3 with k | k <;> rw [k] <;> rfl
  have q4 : ∀ n, L5_0_0 (n + 1) true z 4 a b c d = L5_0_0 n true z 5 a b c d := fun n => by
    rw [qL5_0_0]; simp only [v19_eq, ok_some, val_some, cond_true]; rcases s4 with k | k <;> rw [k] <;> rfl
  rw [show FU = 18446744073709551610 + 1 + 1 + 1 + 1 + 1 + 1 from rfl, q0, q1, q2, q3, q4, qL5_0_0]
  rfl
theorem v10_eq5 : v10 = some true := rfl
theorem v5_true : v5 a b c d = some true := by
  unfold v5
  simp only [v28_eq, v10_eq5, ok_some, val_some, cond_true, cond_nb]
  cases h1 : vb a b
  · rfl
  · cases h2 : vb c d
    · rfl
    · have k : L5_36_0 true a b c d = some true := by
        unfold L5_36_0
        by_cases hc : c ≤ 0
        · have e := l5_0 (z := decide (d ≥ 0)) h1 h2 (by by_cases hd : 0 ≤ d <;> simp [hc, hd])
          rw [decide_eq_true hc, e]; rfl
        · have e := l5_0 (z := false) h1 h2 (by simp [hc])
          rw [decide_eq_false hc, e]; rfl
      rw [k]; rfl
end
end Go.Proofs.Ytojbaamhnfinpaa
set_option maxRecDepth 100000
namespace Go.Proofs.Ytojbaamhnfinpaa
open Go Go.ChangeShapes Go.WideShapes Go.ChangeAt Go.RowKit Go.AM Go.TM
theorem own0 : ownKnob Try.prog.godebug = none := by kernel_rfl
theorem laid0 : laidOutB Try.prog = true := by kernel_rfl
abbrev taus : List Ty := [.pair (.int .i64) (.int .i64), .pair (.int .i64) (.int .i64)]
theorem args0 (x : (Int × Int) × (Int × Int) × Unit) : argsOf Try.prog Try.f5.params.toList taus x = [.agg [.int .i64 x.1.1, .int .i64 x.1.2], .agg [.int .i64 x.2.1.1, .int .i64 x.2.1.2]] := by
  kernel_rfl
theorem law_run : ∀ x : Tup taus, InTup taus x → ∃ k H', TM.evF Try.prog (mkTn base o30 t30) dOk k 5 (argsOf Try.prog Try.f5.params.toList taus x) [] = some ([.sc (.bool true)], H') := by
  intro x hx
  have e := args0 x
  rw [e]
  refine ⟨41, [], ?_⟩
  rw [fn_eq, ev5, v5_true]
  rfl
theorem law_lifted (os : Os) (started : os.Started) (H : Type) (enc : TypeId × Value → H) :
    ReturnsInHanded {} Try.checked os 5 .any (Rows.intervalLeastSpec.pre6 enc Try.prog Try.f5 Rows.intervalLeastRow.domain false) (Rows.intervalLeastSpec.post enc Try.prog Try.f5 false true false false) :=
  law_tm (C := Try.checked) (τs := taus) (tb := 4) (base := base) (O := o30) (T := t30) own0 started (by kernel_rfl) Try.func5
    (ChangeSpec.witness6 (enc := enc) (C := Try.checked) false ⟨#[], #[.agg #[.int .i64 0, .int .i64 0], .agg #[.int .i64 0, .int .i64 0]], []⟩ 8 (by kernel_rfl) (by kernel_rfl) (by kernel_rfl) (by kernel_rfl))
    laid0 (by kernel_rfl) (by kernel_rfl) rfl (by kernel_rfl) names mixed ok30 (by kernel_rfl)
    (fun ds h => by
      match ds, h with
      | [_, _], _ => rfl)
    law_run
theorem intervalLeast_holds : Rows.IntervalLeastSaid :=
  OpenClaim.holds_of_wide 5 Try.f5 rfl rfl rfl rfl rfl rfl rfl ⟨rfl, rfl, rfl, rfl, rfl⟩ rfl rfl rfl rfl rfl (by kernel_rfl) Try.func5 (by kernel_rfl)
    (of_decide_eq_true (by kernel_rfl)) (by unfold Func.isWrapper; first | (rw [if_pos (by decide +kernel)]; kernel_rfl) | (rw [if_neg (by decide +kernel)]; exact ⟨rfl, rfl⟩))
    (fun os started H enc _ => law_lifted os started H enc)
end Go.Proofs.Ytojbaamhnfinpaa
