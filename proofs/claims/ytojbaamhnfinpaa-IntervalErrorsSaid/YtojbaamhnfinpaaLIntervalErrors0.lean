/- IntervalErrors: it returns true at every input; no conditions. -/
import Derived.Test.YtojbaamhnfinpaaG1
import Derived.Test.YtojbaamhnfinpaaRows
import Derived.ProofKit
set_option linter.all false
set_option linter.constructorNameAsVariable false
set_option linter.unnecessarySimpa false
set_option linter.unusedSimpArgs false
set_option linter.unusedVariables false
set_option linter.unusedVariables false
namespace Go.Proofs.Ytojbaamhnfinpaa
open Go Go.AM Go.TM Go.Proofs

@[simp] theorem ok_some {α : Type} (x : α) : ok (some x) = true := rfl
@[simp] theorem ok_none {α : Type} : ok (none : Option α) = false := rfl
@[simp] theorem val_some {α : Type} [Inhabited α] (x : α) : val (some x) = x := rfl

theorem wrap_id {x : Int} (h1 : -9223372036854775808 ≤ x) (h2 : x ≤ 9223372036854775807) : IntKind.wrap IntKind.i64 x = x := by
  simp [IntKind.wrap, IntKind.bits, IntKind.signed]
  omega

/-- Is this a valid interval. -/
def vb (a b : Int) : Bool := decide (-1000000000000 ≤ a ∧ a ≤ 1000000000000 ∧ -1000000000000 ≤ b ∧ b ≤ 1000000000000 ∧ a ≤ b)
theorem vb_iff {a b : Int} : vb a b = true ↔ -1000000000000 ≤ a ∧ a ≤ 1000000000000 ∧ -1000000000000 ≤ b ∧ b ≤ 1000000000000 ∧ a ≤ b := by simp [vb]

theorem v51_eq (a : Int) : v51 a = some (decide (-1000000000000 ≤ a ∧ a ≤ 1000000000000)) := by
  unfold v51
  by_cases h : -1000000000000 ≤ a <;> simp [h]
theorem v35_eq (a : Int) : v35 a = some (decide (-1000000000000 ≤ a ∧ a ≤ 1000000000000)) := v51_eq a
theorem v27_eq (a b : Int) : v27 a b = some (vb a b) := by
  unfold v27
  simp only [v51_eq, ok_some, val_some, cond_true, vb]
  by_cases h : -1000000000000 ≤ a ∧ a ≤ 1000000000000 <;> by_cases h' : -1000000000000 ≤ b ∧ b ≤ 1000000000000 <;> simp [h, h'] <;> omega
theorem v28_eq (a b : Int) : v28 a b = some (vb a b) := v27_eq a b

/-- Lowest and highest of four. -/
def lo4 (p q r s : Int) : Int := min (min (min p q) r) s
def hi4 (p q r s : Int) : Int := max (max (max p q) r) s
theorem v50_eq (p q r s : Int) : v50 [p, q, r, s] = some (lo4 p q r s, hi4 p q r s) := by rfl
/-- The interval around four numbers. -/
def of4 (p q r s : Int) : Int × Int × Int := cond (vb (lo4 p q r s) (hi4 p q r s)) (lo4 p q r s, hi4 p q r s, 0) (0, 0, 3)
def chk (p q : Int) : Int × Int × Int := cond (vb p p && vb q q) (p, q, 0) (0, 0, 3)
/-! ### Products and quotients -/
theorem wabs {x : Int} (h1 : -1000000000000 ≤ x) (h2 : x ≤ 1000000000000) : max x (IntKind.wrap IntKind.i64 ((0 : Int) - x)) = (x.natAbs : Int) := by
  rw [wrap_id (by omega) (by omega)]
  omega
/-- A product, if it is a value. -/
def mulV (t a b : Int) : Int := cond (decide (-1000000000000 ≤ a * b ∧ a * b ≤ 1000000000000)) (a * b) t
theorem abs_mul_iff {a b : Int} : (-1000000000000 ≤ a * b ∧ a * b ≤ 1000000000000) ↔ a.natAbs * b.natAbs ≤ 1000000000000 := by
  rw [← Int.natAbs_mul]; omega
theorem div_iff {a b : Int} (ha : a ≠ 0) (hb : b.natAbs ≤ 1000000000000) : ((b.natAbs : Int) ≤ Int.tdiv 1000000000000 (a.natAbs : Int)) ↔ a.natAbs * b.natAbs ≤ 1000000000000 := by
  have h0 : 0 < a.natAbs := by omega
  rw [show (1000000000000 : Int) = ((1000000000000 : Nat) : Int) by rfl, ← Int.ofNat_tdiv, Int.ofNat_le, Nat.le_div_iff_mul_le h0, Nat.mul_comm]
theorem tdiv_bd {a : Int} (ha : a ≠ 0) : 0 ≤ Int.tdiv 1000000000000 (a.natAbs : Int) ∧ Int.tdiv 1000000000000 (a.natAbs : Int) ≤ 1000000000000 := by
  rw [show (1000000000000 : Int) = ((1000000000000 : Nat) : Int) by rfl, ← Int.ofNat_tdiv]
  exact ⟨Int.natCast_nonneg _, Int.ofNat_le.2 (Nat.div_le_self 1000000000000 a.natAbs)⟩
theorem v41_eq {a b : Int} (h1 : -1000000000000 ≤ a) (h2 : a ≤ 1000000000000) (h3 : -1000000000000 ≤ b) (h4 : b ≤ 1000000000000) : v41 a b = some (mulV 2000000000000 a b) := by
  unfold v41 mulV
  by_cases h0 : a = 0
  · subst h0; simp [wrap_id]
  · have ht := tdiv_bd h0
    simp only [wabs h1 h2, wabs h3 h4, wrap_id (x := Int.tdiv 1000000000000 (a.natAbs : Int)) (by omega) (by omega), abs_mul_iff, div_iff h0 (b := b) (by omega)]
    rw [show (a == 0) = false by simpa using h0, show decide ((a.natAbs : Int) ≠ 0) = true by simpa using h0]
    simp only [cond_true, cond_false]
    by_cases h : a.natAbs * b.natAbs ≤ 1000000000000
    · have := abs_mul_iff.2 h
      simp [h, wrap_id (x := a * b) (by omega) (by omega)]
    · simp [h]
theorem v36_eq {a b : Int} (h1 : -1000000000000 ≤ a) (h2 : a ≤ 1000000000000) (h3 : -1000000000000 ≤ b) (h4 : b ≤ 1000000000000) : v36 a b = some (mulV 1000000000001 a b) := by
  unfold v36 mulV v52
  by_cases h0 : a = 0
  · subst h0; simp [wrap_id]
  · have ht := tdiv_bd h0
    simp only [val_some, wabs h1 h2, wabs h3 h4, wrap_id (x := Int.tdiv 1000000000000 (a.natAbs : Int)) (by omega) (by omega), abs_mul_iff]
    rw [show (a != 0) = true by simpa using h0, show decide ((a.natAbs : Int) ≠ 0) = true by simpa using h0]
    simp only [cond_true]
    by_cases h : a.natAbs * b.natAbs ≤ 1000000000000
    · have := abs_mul_iff.2 h
      have h' := (div_iff h0 (b := b) (by omega)).2 h
      simp [h, wrap_id (x := a * b) (by omega) (by omega), Int.not_lt.2 h']
    · have h' : Int.tdiv 1000000000000 (a.natAbs : Int) < (b.natAbs : Int) := by
        have := mt (div_iff h0 (b := b) (by omega)).1 h
        omega
      simp [h, h']

/-! ### Quotients, rounded down -/
theorem q_bd {a b : Int} (h1 : -1000000000000 ≤ a) (h2 : a ≤ 1000000000000) : -1000000000000 ≤ Int.tdiv a b ∧ Int.tdiv a b ≤ 1000000000000 := by
  have := Int.natAbs_tdiv_le_natAbs a b
  omega
theorem fd {a b : Int} (hb : b ≠ 0) : Int.fdiv a b = cond (decide (Int.tmod a b ≠ 0) && (decide (a < 0) != decide (b < 0))) (Int.tdiv a b - 1) (Int.tdiv a b) := by
  rw [Int.fdiv_eq_tdiv]
  by_cases hd : b ∣ a
  · have hm : Int.tmod a b = 0 := Int.tmod_eq_zero_of_dvd hd
    simp [hd, hm]
  · have hm : Int.tmod a b ≠ 0 := fun h => hd (Int.dvd_of_tmod_eq_zero h)
    have ha : a ≠ 0 := fun h => hd (h ▸ Int.dvd_zero b)
    rw [if_neg hd]
    by_cases h1 : a < 0 <;> by_cases h2 : b < 0
    · rw [if_neg (by omega), if_neg (by omega), Int.sign_eq_neg_one_of_neg h2]; simp [h1, h2]
    · rw [if_neg (by omega), if_pos (by omega), Int.sign_eq_one_of_pos (by omega)]; simp [h1, h2, hm]
    · rw [if_pos (by omega), if_neg (by omega)]; simp [h1, h2, hm]
    · rw [if_pos (by omega), if_pos (by omega)]; simp [h1, h2]
theorem qb_bd {a b : Int} (h1 : -1000000000000 ≤ a) (h2 : a ≤ 1000000000000) : -1000000000000 ≤ Int.tdiv a b * b ∧ Int.tdiv a b * b ≤ 1000000000000 := by
  have h : (Int.tdiv a b * b).natAbs ≤ a.natAbs := by
    rw [Int.natAbs_mul, Int.natAbs_tdiv]
    exact Nat.div_mul_le_self ..
  omega
theorem mul_ne {a b : Int} : (Int.tdiv a b * b != a) = decide (Int.tmod a b ≠ 0) := by
  have e := Int.mul_tdiv_add_tmod a b
  rw [Int.mul_comm] at e
  generalize Int.tdiv a b * b = z at *
  by_cases h : Int.tmod a b = 0
  · simp [h]; omega
  · simp [h]; omega
theorem v44_eq {a b : Int} (h1 : -1000000000000 ≤ a) (h2 : a ≤ 1000000000000) (hb : b ≠ 0) : v44 a b = some (Int.fdiv a b) := by
  have q := q_bd (b := b) h1 h2
  have hl := qb_bd (b := b) h1 h2
  unfold v44
  rw [fd hb]
  simp only [wrap_id (x := Int.tdiv a b) (by omega) (by omega), wrap_id (x := Int.tdiv a b * b) (by omega) (by omega), wrap_id (x := Int.tdiv a b - 1) (by omega) (by omega)]
  rw [mul_ne, show decide (b ≠ 0) = true by simpa using hb]
  simp only [cond_true]
  cases decide (Int.tmod a b ≠ 0) <;> cases decide (a < 0) <;> cases decide (b < 0) <;> rfl
theorem f_bd {a b : Int} (h1 : -1000000000000 ≤ a) (h2 : a ≤ 1000000000000) (hb : b ≠ 0) : -1000000000001 ≤ Int.fdiv a b ∧ Int.fdiv a b ≤ 1000000000000 := by
  have q := q_bd (b := b) h1 h2
  rw [fd hb]
  cases (decide (Int.tmod a b ≠ 0) && (decide (a < 0) != decide (b < 0))) <;> simp only [cond_true, cond_false] <;> omega
theorem v47_eq {a b : Int} (h1 : -1000000000000 ≤ a) (h2 : a ≤ 1000000000000) (hb : b ≠ 0) : v47 a b = some (-Int.fdiv (-a) b) := by
  have q := f_bd (a := -a) (b := b) (by omega) (by omega) hb
  unfold v47
  rw [wrap_id (x := (0 : Int) - a) (by omega) (by omega), show (0 : Int) - a = -a by omega, v44_eq (by omega) (by omega) hb]
  simp only [ok_some, cond_true, val_some]
  rw [wrap_id (by omega) (by omega), Int.zero_sub]

/-! ### The operations -/
theorem lo_bd {p q r s m M : Int} (h : m ≤ p ∧ p ≤ M ∧ m ≤ q ∧ q ≤ M ∧ m ≤ r ∧ r ≤ M ∧ m ≤ s ∧ s ≤ M) : m ≤ lo4 p q r s ∧ lo4 p q r s ≤ M ∧ m ≤ hi4 p q r s ∧ hi4 p q r s ≤ M := by
  unfold lo4 hi4; omega
theorem trip (x : Int × Int × Int) : (x.1, x.2.1, x.2.2) = x := rfl

/-- What an operation answers, by what it makes of the four pairs of ends. -/
def opV (f : Int → Int → Int) (a b c d : Int) : Int × Int × Int := cond (vb a b && vb c d) (of4 (f a c) (f a d) (f b c) (f b d)) (0, 0, 1)
theorem cond_nb {α : Type} (b : Bool) (x y : α) : cond (!b) x y = cond b y x := by cases b <;> rfl
theorem v11_eq (a b c d : Int) : v11 a b c d = some (opV (· + ·) a b c d) := by
  unfold v11 v37
  simp only [v27_eq, ok_some, val_some, cond_true, v53, v38, v50_eq, cond_nb, trip, opV]
  by_cases h1 : vb a b = true <;> by_cases h2 : vb c d = true <;> simp [h1, h2, of4]
  rw [vb_iff] at h1 h2
  rw [wrap_id (by omega) (by omega), wrap_id (by omega) (by omega), wrap_id (by omega) (by omega), wrap_id (by omega) (by omega)]
  cases vb (lo4 (a + c) (a + d) (b + c) (b + d)) (hi4 (a + c) (a + d) (b + c) (b + d)) <;> rfl
theorem v13_eq (a b c d : Int) : v13 a b c d = some (opV (· - ·) a b c d) := by
  unfold v13 v37_1
  simp only [v27_eq, ok_some, val_some, cond_true, v53_1, v40, v50_eq, cond_nb, trip, opV]
  by_cases h1 : vb a b = true <;> by_cases h2 : vb c d = true <;> simp [h1, h2, of4]
  rw [vb_iff] at h1 h2
  rw [wrap_id (by omega) (by omega), wrap_id (by omega) (by omega), wrap_id (by omega) (by omega), wrap_id (by omega) (by omega)]
  cases vb (lo4 (a - c) (a - d) (b - c) (b - d)) (hi4 (a - c) (a - d) (b - c) (b - d)) <;> rfl
theorem v15_eq (a b c d : Int) : v15 a b c d = some (opV (mulV 2000000000000) a b c d) := by
  unfold v15 v37_2
  simp only [v27_eq, ok_some, val_some, cond_true, v53_2, v50_eq, cond_nb, trip, opV]
  by_cases h1 : vb a b = true <;> by_cases h2 : vb c d = true <;> simp [h1, h2, of4]
  rw [vb_iff] at h1 h2
  simp only [v41_eq (a := a) (b := c) (by omega) (by omega) (by omega) (by omega), v41_eq (a := a) (b := d) (by omega) (by omega) (by omega) (by omega), v41_eq (a := b) (b := c) (by omega) (by omega) (by omega) (by omega), v41_eq (a := b) (b := d) (by omega) (by omega) (by omega) (by omega), ok_some, cond_true, val_some]
  generalize mulV 2000000000000 a c = p
  generalize mulV 2000000000000 a d = q
  generalize mulV 2000000000000 b c = r
  generalize mulV 2000000000000 b d = s
  cases vb (lo4 p q r s) (hi4 p q r s) <;> rfl
theorem f_bd' {a b : Int} (h1 : -1000000000000 ≤ a) (h2 : a ≤ 1000000000000) (hb : b ≠ 0) : -1000000000000 ≤ Int.fdiv a b ∧ Int.fdiv a b ≤ 1000000000000 := by
  have q := q_bd (b := b) h1 h2
  rw [fd hb]
  by_cases h : Int.tmod a b = 0
  · simp [h]; omega
  · have e : (Int.tdiv a b).natAbs * b.natAbs + (Int.tmod a b).natAbs = a.natAbs := by
      rw [Int.natAbs_tdiv, Int.natAbs_tmod]
      exact Nat.div_add_mod' ..
    have hb1 : 1 ≤ b.natAbs := by omega
    have hm := Nat.le_mul_of_pos_right (Int.tdiv a b).natAbs hb1
    have h0 : (Int.tmod a b).natAbs ≠ 0 := by omega
    cases (decide (Int.tmod a b ≠ 0) && (decide (a < 0) != decide (b < 0))) <;> simp only [cond_true, cond_false] <;> omega

/-- A quotient of intervals. -/
def dvV (f : Int → Int → Int) (a b c d : Int) : Int × Int × Int := cond (vb a b && vb c d) (cond (decide (c ≤ 0 ∧ 0 ≤ d)) (0, 0, 14) (lo4 (f a c) (f a d) (f b c) (f b d), hi4 (f a c) (f a d) (f b c) (f b d), 0)) (0, 0, 1)
/-- A quotient rounded up. -/
def up (a b : Int) : Int := -Int.fdiv (-a) b
theorem up_bd {a b : Int} (h1 : -1000000000000 ≤ a) (h2 : a ≤ 1000000000000) (hb : b ≠ 0) : -1000000000000 ≤ up a b ∧ up a b ≤ 1000000000000 := by
  have := f_bd' (a := -a) (by omega) (by omega) hb
  unfold up; omega
theorem lo_hi (p q r s : Int) : lo4 p q r s ≤ hi4 p q r s := by unfold lo4 hi4; omega
theorem of4_in {p q r s : Int} (h : -1000000000000 ≤ p ∧ p ≤ 1000000000000 ∧ -1000000000000 ≤ q ∧ q ≤ 1000000000000 ∧ -1000000000000 ≤ r ∧ r ≤ 1000000000000 ∧ -1000000000000 ≤ s ∧ s ≤ 1000000000000) : of4 p q r s = (lo4 p q r s, hi4 p q r s, 0) := by
  have := lo_bd h
  have := lo_hi p q r s
  unfold of4
  rw [vb_iff.2 (by omega)]; rfl

theorem v37_3_eq {a b c d : Int} (h1 : vb a b = true) (h2 : vb c d = true) (h3 : ¬(c ≤ 0 ∧ 0 ≤ d)) : v37_3 a b c d = some (lo4 (Int.fdiv a c) (Int.fdiv a d) (Int.fdiv b c) (Int.fdiv b d), hi4 (Int.fdiv a c) (Int.fdiv a d) (Int.fdiv b c) (Int.fdiv b d), 0) := by
  unfold v37_3
  have g1 := vb_iff.1 h1
  have g2 := vb_iff.1 h2
  simp only [v27_eq, ok_some, val_some, cond_true, v53_3, v50_eq, cond_nb, h1, h2]
  simp only [v44_eq (a := a) (b := c) (by omega) (by omega) (by omega), v44_eq (a := a) (b := d) (by omega) (by omega) (by omega), v44_eq (a := b) (b := c) (by omega) (by omega) (by omega), v44_eq (a := b) (b := d) (by omega) (by omega) (by omega), ok_some, cond_true, val_some]
  have := of4_in (p := Int.fdiv a c) (q := Int.fdiv a d) (r := Int.fdiv b c) (s := Int.fdiv b d) ⟨(f_bd' (by omega) (by omega) (by omega)).1, (f_bd' (by omega) (by omega) (by omega)).2, (f_bd' (by omega) (by omega) (by omega)).1, (f_bd' (by omega) (by omega) (by omega)).2, (f_bd' (by omega) (by omega) (by omega)).1, (f_bd' (by omega) (by omega) (by omega)).2, (f_bd' (by omega) (by omega) (by omega)).1, (f_bd' (by omega) (by omega) (by omega)).2⟩
  unfold of4 at this
  generalize Int.fdiv a c = p at *
  generalize Int.fdiv a d = q at *
  generalize Int.fdiv b c = r at *
  generalize Int.fdiv b d = s at *
  cases hv : vb (lo4 p q r s) (hi4 p q r s)
  · rw [hv] at this; exact absurd this (by simp)
  · rfl
theorem v17_eq (a b c d : Int) : v17 a b c d = some (dvV Int.fdiv a b c d) := by
  unfold v17 v43 dvV
  simp only [v27_eq, ok_some, val_some, cond_true, cond_nb, trip]
  by_cases h1 : vb a b = true <;> by_cases h2 : vb c d = true <;> simp [h1, h2]
  by_cases h3 : c ≤ 0 <;> by_cases h4 : 0 ≤ d
  · simp [h3, h4]
  · simp [h3, h4, v37_3_eq h1 h2 (by omega)]
  · simp [h3, h4, v37_3_eq h1 h2 (by omega)]
  · simp [h3, h4, v37_3_eq h1 h2 (by omega)]
/-- Joined. -/
def jnV (a b c d : Int) : Int × Int × Int := cond (vb a b && vb c d) (min a c, max b d, 0) (0, 0, 1)
theorem v25_eq (a b c d : Int) : v25 a b c d = some (jnV a b c d) := by
  unfold v25 jnV
  simp only [v27_eq, ok_some, val_some, cond_true, cond_nb, v50_eq]
  by_cases h1 : vb a b = true <;> by_cases h2 : vb c d = true <;> simp [h1, h2]
  rw [vb_iff] at h1 h2
  unfold lo4 hi4; omega

end Go.Proofs.Ytojbaamhnfinpaa
set_option linter.unusedVariables false
namespace Go.Proofs.Ytojbaamhnfinpaa
open Go Go.AM Go.TM Go.Proofs
/-- Is it a value. -/
def vv (x : Int) : Bool := decide (-1000000000000 ≤ x ∧ x ≤ 1000000000000)
theorem v35_vv (x : Int) : v35 x = some (vv x) := v35_eq x
theorem vv_iff {x : Int} : vv x = true ↔ -1000000000000 ≤ x ∧ x ≤ 1000000000000 := by simp [vv]
theorem mul_cases (t a b : Int) : (mulV t a b = a * b ∧ -1000000000000 ≤ a * b ∧ a * b ≤ 1000000000000) ∨ (mulV t a b = t ∧ ¬(-1000000000000 ≤ a * b ∧ a * b ≤ 1000000000000)) := by
  unfold mulV
  by_cases h : -1000000000000 ≤ a * b ∧ a * b ≤ 1000000000000
  · simp [h]
  · simp [h]
theorem l9_116 {e f g h s1 s2 u1 u2 : Int} {sum df ml z : Bool} (h1 : sum = true ∧ e = 0 ∨ sum = false ∧ e = 3 ∧ s1 = 0 ∧ s2 = 0) (h2 : df = true ∧ f = 0 ∨ df = false ∧ f = 3) (h3 : ml = true ∧ g = 0 ∨ ml = false ∧ g = 3 ∧ u1 = 0 ∧ u2 = 0) (h4 : z = true ∧ h = 14 ∨ z = false ∧ h = 0) :
    L9_116_0 true e f g h 0 sum df ml z s1 s2 u1 u2 = some true := by
  rcases h1 with ⟨rfl, rfl⟩ | ⟨rfl, rfl, rfl, rfl⟩ <;> rcases h2 with ⟨rfl, rfl⟩ | ⟨rfl, rfl⟩ <;> rcases h3 with ⟨rfl, rfl⟩ | ⟨rfl, rfl, rfl, rfl⟩ <;> rcases h4 with ⟨rfl, rfl⟩ | ⟨rfl, rfl⟩ <;> rfl
theorem l9_108 {e f g h s1 s2 u1 u2 c d : Int} {sum df ml : Bool} (h1 : sum = true ∧ e = 0 ∨ sum = false ∧ e = 3 ∧ s1 = 0 ∧ s2 = 0) (h2 : df = true ∧ f = 0 ∨ df = false ∧ f = 3) (h3 : ml = true ∧ g = 0 ∨ ml = false ∧ g = 3 ∧ u1 = 0 ∧ u2 = 0) (h4 : (c ≤ 0 ∧ 0 ≤ d) ∧ h = 14 ∨ ¬(c ≤ 0 ∧ 0 ≤ d) ∧ h = 0) :
    L9_108_0 true e f g h 0 sum df ml c d s1 s2 u1 u2 = some true := by
  unfold L9_108_0
  by_cases hc : c ≤ 0
  · by_cases hd : 0 ≤ d
    · rw [decide_eq_true hc, decide_eq_true (show d ≥ 0 from hd), l9_116 h1 h2 h3 (.inl ⟨rfl, by omega⟩)]; rfl
    · rw [decide_eq_true hc, decide_eq_false (show ¬ d ≥ 0 from hd), l9_116 h1 h2 h3 (.inr ⟨rfl, by omega⟩)]; rfl
  · rw [decide_eq_false hc, l9_116 h1 h2 h3 (.inr ⟨rfl, by omega⟩)]; rfl
theorem v35_mul (a b : Int) : v35 (mulV 1000000000001 a b) = some (vv (a * b)) := by
  rw [v35_vv]
  congr 1
  rw [Bool.eq_iff_iff, vv_iff, vv_iff]
  have := mul_cases 1000000000001 a b
  omega
theorem l9_100 {a b c d e f g h s1 s2 u1 u2 : Int} {sum df : Bool} (g1 : vb a b = true) (g2 : vb c d = true) (h1 : sum = true ∧ e = 0 ∨ sum = false ∧ e = 3 ∧ s1 = 0 ∧ s2 = 0) (h2 : df = true ∧ f = 0 ∨ df = false ∧ f = 3)
    (h3 : (vv (a * c) && vv (a * d) && vv (b * c) && vv (b * d)) = true ∧ g = 0 ∨ (vv (a * c) && vv (a * d) && vv (b * c) && vv (b * d)) = false ∧ g = 3 ∧ u1 = 0 ∧ u2 = 0) (h4 : (c ≤ 0 ∧ 0 ≤ d) ∧ h = 14 ∨ ¬(c ≤ 0 ∧ 0 ≤ d) ∧ h = 0) :
    L9_100_0 true e f g h 0 sum df a b c d s1 s2 u1 u2 = some true := by
  have k1 := vb_iff.1 g1
  have k2 := vb_iff.1 g2
  unfold L9_100_0
  simp only [v36_eq (a := a) (b := c) (by omega) (by omega) (by omega) (by omega), v36_eq (a := a) (b := d) (by omega) (by omega) (by omega) (by omega), v36_eq (a := b) (b := c) (by omega) (by omega) (by omega) (by omega), v36_eq (a := b) (b := d) (by omega) (by omega) (by omega) (by omega), ok_some, cond_true, val_some, v35_mul]
  generalize vv (a * c) = p at *
  generalize vv (a * d) = q at *
  generalize vv (b * c) = r at *
  generalize vv (b * d) = s at *
  cases p
  · have k := l9_108 (ml := false) h1 h2 h3 h4
    rw [k]; rfl
  cases q
  · have k := l9_108 (ml := false) h1 h2 h3 h4
    rw [k]; rfl
  cases r
  · have k := l9_108 (ml := false) h1 h2 h3 h4
    rw [k]; rfl
  have k := l9_108 (ml := s) h1 h2 h3 h4
  rw [k]; rfl
theorem errors {a b c d : Int} (g1 : vb a b = true) (g2 : vb c d = true) : L9_28_0 true true a b c d = some true := by
  have k1 := vb_iff.1 g1
  have k2 := vb_iff.1 g2
  have of3 : ∀ (p q r s : Int) (t : Bool), t = vb (lo4 p q r s) (hi4 p q r s) → (t = true ∧ (of4 p q r s).2.2 = 0 ∨ t = false ∧ (of4 p q r s).2.2 = 3 ∧ (of4 p q r s).1 = 0 ∧ (of4 p q r s).2.1 = 0) := by
    intro p q r s t ht
    unfold of4
    rw [← ht]
    cases t
    · exact .inr ⟨rfl, rfl, rfl, rfl⟩
    · exact .inl ⟨rfl, rfl⟩
  have op : ∀ f : Int → Int → Int, opV f a b c d = of4 (f a c) (f a d) (f b c) (f b d) := fun f => by unfold opV; rw [g1, g2]; rfl
  have F1 := of3 (a + c) (a + d) (b + c) (b + d) (vv (a + c) && vv (b + d)) (by rw [Bool.eq_iff_iff, Bool.and_eq_true, vv_iff, vv_iff, vb_iff]; unfold lo4 hi4; omega)
  have F2 := of3 (a - c) (a - d) (b - c) (b - d) (vv (a - d) && vv (b - c)) (by rw [Bool.eq_iff_iff, Bool.and_eq_true, vv_iff, vv_iff, vb_iff]; unfold lo4 hi4; omega)
  have F3 := of3 (mulV 2000000000000 a c) (mulV 2000000000000 a d) (mulV 2000000000000 b c) (mulV 2000000000000 b d) (vv (a * c) && vv (a * d) && vv (b * c) && vv (b * d)) (by
    rw [Bool.eq_iff_iff, Bool.and_eq_true, Bool.and_eq_true, Bool.and_eq_true, vv_iff, vv_iff, vv_iff, vv_iff, vb_iff]
    have e1 := mul_cases 2000000000000 a c; have e2 := mul_cases 2000000000000 a d; have e3 := mul_cases 2000000000000 b c; have e4 := mul_cases 2000000000000 b d
    unfold lo4 hi4; omega)
  have F4 : (c ≤ 0 ∧ 0 ≤ d) ∧ (dvV Int.fdiv a b c d).2.2 = 14 ∨ ¬(c ≤ 0 ∧ 0 ≤ d) ∧ (dvV Int.fdiv a b c d).2.2 = 0 := by
    unfold dvV
    rw [g1, g2]
    by_cases h0 : c ≤ 0 ∧ 0 ≤ d
    · rw [decide_eq_true h0]; exact .inl ⟨h0, rfl⟩
    · rw [decide_eq_false h0]; exact .inr ⟨h0, rfl⟩
  have F5 : (jnV a b c d).2.2 = 0 := by unfold jnV; rw [g1, g2]; rfl
  have F2' : (vv (a - d) && vv (b - c)) = true ∧ (of4 (a - c) (a - d) (b - c) (b - d)).2.2 = 0 ∨ (vv (a - d) && vv (b - c)) = false ∧ (of4 (a - c) (a - d) (b - c) (b - d)).2.2 = 3 := F2.imp id fun h => ⟨h.1, h.2.1⟩
  unfold L9_28_0
  simp only [v11_eq, v13_eq, v15_eq, v17_eq, v25_eq, ok_some, val_some, cond_true, Bool.not_true, cond_false, op, F5]
  suffices k : L9_84_0 true (of4 (a + c) (a + d) (b + c) (b + d)).2.2 (of4 (a - c) (a - d) (b - c) (b - d)).2.2 (of4 (mulV 2000000000000 a c) (mulV 2000000000000 a d) (mulV 2000000000000 b c) (mulV 2000000000000 b d)).2.2 (dvV Int.fdiv a b c d).2.2 0 a b c d
      (of4 (a + c) (a + d) (b + c) (b + d)).1 (of4 (a + c) (a + d) (b + c) (b + d)).2.1 (of4 (mulV 2000000000000 a c) (mulV 2000000000000 a d) (mulV 2000000000000 b c) (mulV 2000000000000 b d)).1 (of4 (mulV 2000000000000 a c) (mulV 2000000000000 a d) (mulV 2000000000000 b c) (mulV 2000000000000 b d)).2.1 = some true by
    rw [k]; rfl
  generalize (of4 (a + c) (a + d) (b + c) (b + d)) = S at *
  generalize (of4 (a - c) (a - d) (b - c) (b - d)) = D at *
  generalize (of4 (mulV 2000000000000 a c) (mulV 2000000000000 a d) (mulV 2000000000000 b c) (mulV 2000000000000 b d)) = M at *
  have k92 : ∀ sum, (sum = true ∧ S.2.2 = 0 ∨ sum = false ∧ S.2.2 = 3 ∧ S.1 = 0 ∧ S.2.1 = 0) → L9_92_0 true S.2.2 D.2.2 M.2.2 (dvV Int.fdiv a b c d).2.2 0 sum a b c d S.1 S.2.1 M.1 M.2.1 = some true := by
    intro sum hs
    have k : ∀ df, (df = true ∧ D.2.2 = 0 ∨ df = false ∧ D.2.2 = 3) → L9_100_0 true S.2.2 D.2.2 M.2.2 (dvV Int.fdiv a b c d).2.2 0 sum df a b c d S.1 S.2.1 M.1 M.2.1 = some true := fun df h2 => l9_100 (df := df) g1 g2 hs h2 F3 F4
    unfold L9_92_0
    rw [wrap_id (x := a - d) (by omega) (by omega), wrap_id (x := b - c) (by omega) (by omega)]
    simp only [v35_vv, ok_some, val_some, cond_true]
    generalize vv (a - d) = p at *
    generalize vv (b - c) = q at *
    cases p
    · rw [k false F2']; rfl
    · rw [k q F2']; rfl
  unfold L9_84_0
  rw [wrap_id (x := a + c) (by omega) (by omega), wrap_id (x := b + d) (by omega) (by omega)]
  simp only [v35_vv, ok_some, val_some, cond_true]
  generalize vv (a + c) = p at *
  generalize vv (b + d) = q at *
  cases p
  · rw [k92 false F1]; rfl
  · rw [k92 q F1]; rfl
theorem invalid {a b c d : Int} (g : (vb a b && vb c d) = false) : L9_28_0 true false a b c d = some true := by
  have e1 : ∀ f, opV f a b c d = (0, 0, 1) := fun f => by unfold opV; rw [g]; rfl
  have e2 : dvV Int.fdiv a b c d = (0, 0, 1) := by unfold dvV; rw [g]; rfl
  have e3 : jnV a b c d = (0, 0, 1) := by unfold jnV; rw [g]; rfl
  unfold L9_28_0
  simp only [v11_eq, v13_eq, v15_eq, v17_eq, v25_eq, e1, e2, e3, ok_some, val_some]
  rfl
theorem v10_eq : v10 = some true := rfl
theorem v9_true (a b c d : Int) : v9 a b c d = some true := by
  unfold v9
  simp only [v28_eq, v10_eq, ok_some, val_some, cond_true]
  cases h1 : vb a b
  · simp [invalid (a := a) (b := b) (c := c) (d := d) (by rw [h1]; rfl)]
  · cases h2 : vb c d
    · simp [invalid (a := a) (b := b) (c := c) (d := d) (by rw [h1, h2]; rfl)]
    · simp [errors h1 h2]
end Go.Proofs.Ytojbaamhnfinpaa
set_option maxRecDepth 100000
namespace Go.Proofs.Ytojbaamhnfinpaa
open Go Go.ChangeShapes Go.WideShapes Go.ChangeAt Go.RowKit Go.AM Go.TM
theorem own0 : ownKnob Try.prog.godebug = none := by kernel_rfl
theorem laid0 : laidOutB Try.prog = true := by kernel_rfl
abbrev taus : List Ty := [.pair (.int .i64) (.int .i64), .pair (.int .i64) (.int .i64)]
theorem args0 (x : (Int × Int) × (Int × Int) × Unit) : argsOf Try.prog Try.f9.params.toList taus x = [.agg [.int .i64 x.1.1, .int .i64 x.1.2], .agg [.int .i64 x.2.1.1, .int .i64 x.2.1.2]] := by
  kernel_rfl
theorem law_run : ∀ x : Tup taus, InTup taus x → ∃ k H', TM.evF Try.prog (mkTn base o36 t36) dOk k 9 (argsOf Try.prog Try.f9.params.toList taus x) [] = some ([.sc (.bool true)], H') := by
  intro x hx
  have e := args0 x
  rw [e]
  refine ⟨41, [], ?_⟩
  rw [fn_eq, ev9, v9_true]
  rfl
theorem law_lifted (os : Os) (started : os.Started) (H : Type) (enc : TypeId × Value → H) :
    ReturnsInHanded {} Try.checked os 9 .any (Rows.intervalErrorsSpec.pre6 enc Try.prog Try.f9 Rows.intervalErrorsRow.domain false) (Rows.intervalErrorsSpec.post enc Try.prog Try.f9 false true false false) :=
  law_tm (C := Try.checked) (τs := taus) (tb := 4) (base := base) (O := o36) (T := t36) own0 started (by kernel_rfl) Try.func9
    (ChangeSpec.witness6 (enc := enc) (C := Try.checked) false ⟨#[], #[.agg #[.int .i64 0, .int .i64 0], .agg #[.int .i64 0, .int .i64 0]], []⟩ 8 (by kernel_rfl) (by kernel_rfl) (by kernel_rfl) (by kernel_rfl))
    laid0 (by kernel_rfl) (by kernel_rfl) rfl (by kernel_rfl) names mixed ok36 (by kernel_rfl)
    (fun ds h => by
      match ds, h with
      | [_, _], _ => rfl)
    law_run
theorem intervalErrors_holds : Rows.IntervalErrorsSaid :=
  OpenClaim.holds_of_wide 9 Try.f9 rfl rfl rfl rfl rfl rfl rfl ⟨rfl, rfl, rfl, rfl, rfl⟩ rfl rfl rfl rfl rfl (by kernel_rfl) Try.func9 (by kernel_rfl)
    (of_decide_eq_true (by kernel_rfl)) (by unfold Func.isWrapper; first | (rw [if_pos (by decide +kernel)]; kernel_rfl) | (rw [if_neg (by decide +kernel)]; exact ⟨rfl, rfl⟩))
    (fun os started H enc _ => law_lifted os started H enc)
end Go.Proofs.Ytojbaamhnfinpaa
