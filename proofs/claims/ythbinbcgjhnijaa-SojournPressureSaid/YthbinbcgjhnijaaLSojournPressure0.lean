/- SojournPressure: it returns true at every input; no conditions. -/
import Derived.Test.YthbinbcgjhnijaaG3
import Derived.Test.YthbinbcgjhnijaaRows
import Derived.ProofKit
set_option linter.all false
set_option linter.constructorNameAsVariable false
set_option linter.unnecessarySimpa false
set_option linter.unusedSimpArgs false
set_option linter.unusedVariables false
set_option linter.unusedVariables false
namespace Go.Proofs.Ythbinbcgjhnijaa
open Go Go.AM Go.TM Go.Proofs
@[simp] theorem ok_some {α : Type} (x : α) : ok (some x) = true := rfl
@[simp] theorem val_some {α : Type} [Inhabited α] (x : α) : val (some x) = x := rfl
@[simp] theorem isL_inl {α β : Type} (x : α) : isL (some (.inl x : α ⊕ β)) = true := rfl
@[simp] theorem isL_inr {α β : Type} (x : β) : isL (some (.inr x : α ⊕ β)) = false := rfl
@[simp] theorem getL_inl {α β : Type} [Inhabited α] (x : α) : getL (some (.inl x : α ⊕ β)) = x := rfl
@[simp] theorem getR_inr {α β : Type} (x : β) : getR (some (.inr x : α ⊕ β)) = some x := rfl
theorem cond_nb {α : Type} (b : Bool) (x y : α) : cond (!b) x y = cond b y x := by cases b <;> rfl
theorem wrap_id {x : Int} (h1 : -9223372036854775808 ≤ x) (h2 : x ≤ 9223372036854775807) : IntKind.wrap IntKind.i64 x = x := by
  simp [IntKind.wrap, IntKind.bits, IntKind.signed]
  omega
theorem up1 {i : Nat} (h : i < 9223372036854775807) : IntKind.wrap IntKind.i64 ((i : Int) + 1) = ((i + 1 : Nat) : Int) := by rw [wrap_id (by omega) (by omega)]; omega
theorem getD_drop {α : Type} {l : List α} {i : Nat} (h : i < l.length) (d : α) : l.drop i = l.getD i d :: l.drop (i + 1) := by
  rw [List.drop_eq_getElem_cons h]
  congr 1
  simp [List.getD, List.getElem?_eq_getElem h]
abbrev Len {α : Type} (l : List α) : Prop := l.length ≤ 9223372036854775807
theorem and_cond (p q : Prop) [Decidable p] [Decidable q] : cond (decide p) (some (decide q)) (some false) = some (decide (p ∧ q)) := by
  by_cases h : p <;> simp [h]
theorem nand_cond (p q : Prop) [Decidable p] [Decidable q] : cond (decide p) (some false) (some (decide q)) = some (decide (¬ p ∧ q)) := by
  by_cases h : p <;> simp [h]
theorem bne_dec (x y : Int) : (x != y) = !decide (x = y) := rfl
theorem beq_dec (x y : Int) : (x == y) = decide (x = y) := rfl
abbrev PK := Int × Int × Int × Int × Int × Int × Bool × Bool
abbrev QD := PK × Int
def pkOk (p : PK) : Bool := decide ((0 ≤ p.1 ∧ p.1 ≤ 7) ∧ (0 ≤ p.2.1 ∧ p.2.1 ≤ 3) ∧ (0 ≤ p.2.2.1 ∧ p.2.2.1 ≤ 1000000000) ∧ (0 ≤ p.2.2.2.1 ∧ p.2.2.2.1 ≤ 1000000000) ∧ (1 ≤ p.2.2.2.2.1 ∧ p.2.2.2.2.1 ≤ 10000) ∧ (0 ≤ p.2.2.2.2.2.1 ∧ p.2.2.2.2.2.1 ≤ 10000000))
theorem v39_eq (a b c : Int) : v39 a b c = some (decide (b ≤ a ∧ a ≤ c)) := by
  unfold v39; rw [and_cond]
theorem v40_eq (a : Int) : v40 a = some (decide (0 ≤ a ∧ a ≤ 10000000)) := by
  unfold v40; simp only [v39_eq, ok_some, val_some, cond_true]
theorem v26_eq (a : Int) : v26 a = some (decide (0 ≤ a ∧ a ≤ 10000000)) := by
  unfold v26; rw [and_cond]
theorem v44_eq (a : Int) : v44 a = some (decide (0 ≤ a ∧ a ≤ 1000000000)) := by
  unfold v44; rw [and_cond]
theorem v31_eq (p : PK) : v31 p.1 p.2.1 p.2.2.1 p.2.2.2.1 p.2.2.2.2.1 p.2.2.2.2.2.1 p.2.2.2.2.2.2.1 p.2.2.2.2.2.2.2 = some (pkOk p) := by
  unfold v31 pkOk
  simp only [v39_eq, v40_eq, ok_some, val_some, cond_true, and_cond]
theorem v27_eq (p : PK) : v27 p.1 p.2.1 p.2.2.1 p.2.2.2.1 p.2.2.2.2.1 p.2.2.2.2.2.1 p.2.2.2.2.2.2.1 p.2.2.2.2.2.2.2 = some (pkOk p) := by
  unfold v27 pkOk
  simp only [v44_eq, v26_eq, ok_some, val_some, cond_true, and_cond]
  congr 1
  apply decide_eq_decide.2
  constructor <;> intro h <;> omega
theorem l45 (l : List Int) (hl : Len l) : ∀ (k n i : Nat), i + k = l.length → k < n →
    (∃ j : Nat, L45_0_0 n l (l.length : Int) (i : Int) = some (.inl (j : Int)) ∧ (l.drop i).any (· != 0) = true) ∨ (L45_0_0 n l (l.length : Int) (i : Int) = some (.inr ()) ∧ (l.drop i).any (· != 0) = false) := by
  intro k
  induction k with
  | zero =>
    intro n i h1 h2
    cases n with
    | zero => omega
    | succ n =>
      rw [qL45_0_0, decide_eq_false (show ¬ ((i : Int) < (l.length : Int)) by omega), List.drop_of_length_le (show l.length ≤ i by omega)]
      exact .inr ⟨rfl, rfl⟩
  | succ k ih =>
    intro n i h1 h2
    cases n with
    | zero => omega
    | succ n =>
      have hi : i < l.length := by omega
      rw [qL45_0_0, decide_eq_true (show (i : Int) < (l.length : Int) by omega), decide_eq_true (show (0 : Int) ≤ (i : Int) by omega), up1 (by have : l.length ≤ 9223372036854775807 := hl; omega)]
      simp only [cond_true, Int.toNat_natCast, v42, val_some]
      rw [getD_drop hi 0]
      cases hb : (l.getD i 0 != 0) with
      | true => exact .inl ⟨i, rfl, by simp only [List.any_cons, hb, Bool.true_or]⟩
      | false =>
        simp only [cond_false, List.any_cons, hb, Bool.false_or]
        exact ih n (i + 1) (by omega) (by omega)
theorem v41_eq (l : List Int) (hl : Len l) : v41 l = some (l.any (· != 0)) := by
  unfold v41 v45
  rcases l45 l hl l.length FU 0 (by omega) (by have : l.length ≤ 9223372036854775807 := hl; unfold FU; omega) with ⟨j, h, hx⟩ | ⟨h, hx⟩
  · simp only [Int.natCast_zero, List.drop_zero] at h hx
    rw [h, hx]
    simp
  · simp only [Int.natCast_zero, List.drop_zero] at h hx
    rw [h, hx]
    simp
def lst (hi : Int) : Int → List QD → Bool
  | _, [] => true
  | last, w :: r => cond (pkOk w.1) (cond (decide (last ≤ w.2 ∧ w.2 ≤ hi)) (lst hi w.2 r) false) false
theorem l18 (l : List QD) (hl : Len l) (x4 x5 x6 x7 x8 x9 x10 hi0 : Int) : ∀ (k n i : Nat) (last : Int), i + k = l.length → k < n →
    L18_0_0 n last l (l.length : Int) (i : Int) x4 x5 x6 x7 x8 x9 x10 hi0 = some (cond (lst hi0 last (l.drop i)) (.inr ()) (.inl false)) := by
  intro k
  induction k with
  | zero =>
    intro n i last h1 h2
    cases n with
    | zero => omega
    | succ n =>
      rw [qL18_0_0, decide_eq_false (show ¬ ((i : Int) < (l.length : Int)) by omega), List.drop_of_length_le (show l.length ≤ i by omega)]
      rfl
  | succ k ih =>
    intro n i last h1 h2
    cases n with
    | zero => omega
    | succ n =>
      have hi : i < l.length := by omega
      rw [qL18_0_0, decide_eq_true (show (i : Int) < (l.length : Int) by omega), decide_eq_true (show (0 : Int) ≤ (i : Int) by omega), up1 (by have : l.length ≤ 9223372036854775807 := hl; omega)]
      simp only [cond_true, Int.toNat_natCast, v31_eq, v39_eq, ok_some, val_some, cond_nb]
      rw [getD_drop hi (PKz, (0 : Int)), lst, ih n (i + 1) _ (by omega) (by omega)]
      cases pkOk (l.getD i (PKz, (0 : Int))).1 with
      | false => rfl
      | true =>
        simp only [cond_true]
        cases decide (last ≤ (l.getD i (PKz, (0 : Int))).2 ∧ (l.getD i (PKz, (0 : Int))).2 ≤ hi0) <;> rfl
structure Qu where
  k : Int
  a : Int
  b : Int
  c : Int
  room : Int
  ls : List (List QD)
  v0 : Int
  v1 : Int
  v2 : Int
  v3 : Int
  v4 : Int
  v5 : Int
  v6 : Int
  v7 : Int
  seed : Int
def first (q : Qu) : List QD := q.ls.getD 0 []
structure Vd (q : Qu) : Prop where
  k : q.k = 3
  a : 0 ≤ q.a ∧ q.a ≤ 1000000
  b : 1 ≤ q.b ∧ q.b ≤ 1000000
  c : q.c = 0
  room : 1 ≤ q.room ∧ q.room ≤ 500
  one : q.ls.length = 1
  seed : q.seed = 0
  v7 : 0 ≤ q.v7 ∧ q.v7 ≤ 10000000
  v0 : 0 ≤ q.v0 ∧ q.v0 ≤ q.v7 + q.b + 1
  v1 : 0 ≤ q.v1 ∧ q.v1 ≤ 1000000000
  v01 : q.v0 = 0 → q.v1 = 0
  len : ((first q).length : Int) ≤ q.room
  v2 : q.v2 = 0
  v3 : q.v3 = 0
  v4 : q.v4 = 0
  v5 : q.v5 = 0
  v6 : q.v6 = 0
  lst : lst q.v7 0 (first q) = true
def vd (q : Qu) : Bool := decide (q.k = 3 ∧ (0 ≤ q.a ∧ q.a ≤ 1000000) ∧ (1 ≤ q.b ∧ q.b ≤ 1000000) ∧ q.c = 0 ∧ (1 ≤ q.room ∧ q.room ≤ 500) ∧ q.ls.length = 1 ∧ q.seed = 0 ∧ (0 ≤ q.v7 ∧ q.v7 ≤ 10000000) ∧
  (0 ≤ q.v0 ∧ q.v0 ≤ q.v7 + q.b + 1) ∧ (0 ≤ q.v1 ∧ q.v1 ≤ 1000000000) ∧ (q.v0 = 0 → q.v1 = 0) ∧ ((first q).length : Int) ≤ q.room ∧ (q.v2 = 0 ∧ q.v3 = 0 ∧ q.v4 = 0 ∧ q.v5 = 0 ∧ q.v6 = 0) ∧ lst q.v7 0 (first q) = true)
theorem vd_iff {q : Qu} : vd q = true ↔ Vd q := by
  unfold vd
  rw [decide_eq_true_iff]
  constructor
  · rintro ⟨h1, h2, h3, h4, h5, h6, h7, h8, h9, h10, h11, h12, ⟨h13, h14, h15, h16, h17⟩, h18⟩
    exact ⟨h1, h2, h3, h4, h5, h6, h7, h8, h9, h10, h11, h12, h13, h14, h15, h16, h17, h18⟩
  · rintro ⟨h1, h2, h3, h4, h5, h6, h7, h8, h9, h10, h11, h12, h13, h14, h15, h16, h17, h18⟩
    exact ⟨h1, h2, h3, h4, h5, h6, h7, h8, h9, h10, h11, h12, ⟨h13, h14, h15, h16, h17⟩, h18⟩
theorem L18_68_eq (q : Qu) (hf : Len (first q)) (h1 : q.ls.length = 1) (y0 y1 y2 y3 y4 y5 y6 y7 : Int) : L18_68_0 q.k q.a q.b q.c q.room q.ls q.v0 q.v1 q.v2 q.v3 q.v4 q.v5 q.v6 q.v7 q.seed y0 y1 y2 y3 y4 y5 y6 y7 = some (lst y7 0 (first q)) := by
  unfold L18_68_0
  rw [decide_eq_true (show (0 : Int) < (q.ls.length : Int) by omega)]
  have h := l18 (first q) hf y0 y1 y2 y3 y4 y5 y6 y7 (first q).length FU 0 0 (by omega) (by have : (first q).length ≤ 9223372036854775807 := hf; unfold FU; omega)
  simp only [Int.natCast_zero, List.drop_zero] at h
  have e : q.ls.getD (Int.toNat (0 : Int)) [] = first q := rfl
  rw [e, h]
  cases lst y7 0 (first q) <;> rfl
theorem v18_eq (q : Qu) (hf : Len (first q)) : v18 q.k q.a q.b q.c q.room q.ls q.v0 q.v1 q.v2 q.v3 q.v4 q.v5 q.v6 q.v7 q.seed = some (vd q) := by
  cases h : vd q with
  | true =>
    have hv := vd_iff.1 h
    obtain ⟨h1, h2, h3, h4, h5, h6, h7, h8, h9, h10, h11, h12, h13, h14, h15, h16, h17, h18⟩ := hv
    unfold v18 L18_36_0 L18_52_0
    have e : q.ls.getD (Int.toNat (0 : Int)) [] = first q := rfl
    have w1 : IntKind.wrap IntKind.i64 (q.v7 + q.b) = q.v7 + q.b := wrap_id (by omega) (by omega)
    have w2 : IntKind.wrap IntKind.i64 (q.v7 + q.b + 1) = q.v7 + q.b + 1 := wrap_id (by omega) (by omega)
    have e5 : v41 [q.v2, q.v3, q.v4, q.v5, q.v6] = some false := by
      rw [v41_eq _ (by simp)]; simp [h13, h14, h15, h16, h17]
    simp only [v39_eq, v40_eq, w1, w2, ok_some, val_some, cond_true, cond_nb, e5, e, L18_68_eq q hf h6, h18]
    rw [h1, h4, h6, h7]
    rw [decide_eq_true h2, decide_eq_true h3, decide_eq_true h5, decide_eq_true h8, decide_eq_true h9, decide_eq_true h10]
    rw [decide_eq_false (show ¬ (((first q).length : Int) > q.room) by omega)]
    by_cases z : q.v0 = 0
    · rw [z, h11 z]; rfl
    · have : (q.v0 == (0 : Int)) = false := by simpa using z
      rw [this]; rfl
  | false =>
    have hv : ¬ Vd q := fun hv => by rw [vd_iff.2 hv] at h; cases h
    unfold v18
    simp only [v39_eq, ok_some, val_some, cond_true, cond_nb]
    by_cases h1 : q.k = 3
    case neg => have : (q.k != (3 : Int)) = true := by simpa using h1
                rw [this]; rfl
    by_cases h2 : 0 ≤ q.a ∧ q.a ≤ 1000000
    case neg => rw [decide_eq_false h2, h1]; rfl
    by_cases h3 : 1 ≤ q.b ∧ q.b ≤ 1000000
    case neg => rw [decide_eq_true h2, decide_eq_false h3, h1]; rfl
    by_cases h4 : q.c = 0
    case neg => have : (q.c != (0 : Int)) = true := by simpa using h4
                rw [decide_eq_true h2, decide_eq_true h3, h1, this]; rfl
    by_cases h5 : 1 ≤ q.room ∧ q.room ≤ 500
    case neg => rw [decide_eq_true h2, decide_eq_true h3, h1, h4, decide_eq_false h5]; rfl
    by_cases h6 : q.ls.length = 1
    case neg => have : ((q.ls.length : Int) != (1 : Int)) = true := by simp; omega
                rw [decide_eq_true h2, decide_eq_true h3, h1, h4, decide_eq_true h5, this]; rfl
    by_cases h7 : q.seed = 0
    case neg => have : (q.seed != (0 : Int)) = true := by simpa using h7
                rw [decide_eq_true h2, decide_eq_true h3, h1, h4, decide_eq_true h5, h6, this]; rfl
    have main : L18_36_0 q.k q.a q.b q.c q.room q.ls q.v0 q.v1 q.v2 q.v3 q.v4 q.v5 q.v6 q.v7 q.seed q.k q.a q.b q.c q.v0 q.v1 q.v2 q.v3 q.v4 q.v5 q.v6 q.v7 = some false := by
      unfold L18_36_0
      simp only [v39_eq, v40_eq, ok_some, val_some, cond_true, cond_nb]
      by_cases h8 : 0 ≤ q.v7 ∧ q.v7 ≤ 10000000
      case neg => rw [decide_eq_false h8]; rfl
      have w1 : IntKind.wrap IntKind.i64 (q.v7 + q.b) = q.v7 + q.b := wrap_id (by omega) (by omega)
      have w2 : IntKind.wrap IntKind.i64 (q.v7 + q.b + 1) = q.v7 + q.b + 1 := wrap_id (by omega) (by omega)
      rw [w1, w2, decide_eq_true h8]
      simp only [cond_true]
      by_cases h9 : 0 ≤ q.v0 ∧ q.v0 ≤ q.v7 + q.b + 1
      case neg => rw [decide_eq_false h9]; rfl
      by_cases h10 : 0 ≤ q.v1 ∧ q.v1 ≤ 1000000000
      case neg => rw [decide_eq_true h9, decide_eq_false h10]; rfl
      rw [decide_eq_true h9, decide_eq_true h10]
      simp only [cond_true]
      have rest : (cond (decide (0 < (q.ls.length : Int))) (cond (decide (((q.ls.getD (Int.toNat (0 : Int)) []).length : Int) > q.room)) (some false) (cond (ok (L18_52_0 q.k q.a q.b q.c q.room q.ls q.v0 q.v1 q.v2 q.v3 q.v4 q.v5 q.v6 q.v7 q.seed q.v0 q.v1 q.v2 q.v3 q.v4 q.v5 q.v6 q.v7)) (some (val (L18_52_0 q.k q.a q.b q.c q.room q.ls q.v0 q.v1 q.v2 q.v3 q.v4 q.v5 q.v6 q.v7 q.seed q.v0 q.v1 q.v2 q.v3 q.v4 q.v5 q.v6 q.v7))) none)) none) = some false ∨ (q.v0 = 0 ∧ q.v1 ≠ 0) := by
        by_cases h11 : q.v0 = 0 → q.v1 = 0
        case neg => exact .inr (Classical.not_imp.1 h11)
        left
        rw [decide_eq_true (show (0 : Int) < (q.ls.length : Int) by omega)]
        have e : q.ls.getD (Int.toNat (0 : Int)) [] = first q := rfl
        rw [e]
        by_cases h12 : ((first q).length : Int) ≤ q.room
        case neg => rw [decide_eq_true (show ((first q).length : Int) > q.room by omega)]; rfl
        rw [decide_eq_false (show ¬ ((first q).length : Int) > q.room by omega)]
        simp only [cond_true, cond_false]
        unfold L18_52_0
        rw [v41_eq _ (by simp), L18_68_eq q hf h6]
        simp only [ok_some, val_some, cond_true]
        cases hz : [q.v2, q.v3, q.v4, q.v5, q.v6].any (· != 0) with
        | true => rfl
        | false =>
          simp only [cond_false]
          cases hl : lst q.v7 0 (first q) with
          | false => rfl
          | true =>
            simp at hz
            exact absurd ⟨h1, h2, h3, h4, h5, h6, h7, h8, h9, h10, h11, h12, hz.1, hz.2.1, hz.2.2.1, hz.2.2.2.1, hz.2.2.2.2, hl⟩ hv
      rcases rest with hr | ⟨z0, z1⟩
      · rw [hr]
        by_cases z : q.v0 = 0
        · rw [z]
          by_cases z2 : q.v1 = 0
          · rw [z2]; rfl
          · have : (q.v1 != (0 : Int)) = true := by simpa using z2
            rw [this]; rfl
        · have : (q.v0 == (0 : Int)) = false := by simpa using z
          rw [this]; rfl
      · have : (q.v1 != (0 : Int)) = true := by simpa using z1
        rw [z0, this]; rfl
    rw [decide_eq_true h2, decide_eq_true h3, decide_eq_true h5, main, h1, h4, h6, h7]; rfl
end Go.Proofs.Ythbinbcgjhnijaa
set_option linter.unusedVariables false
set_option maxRecDepth 100000
namespace Go.Proofs.Ythbinbcgjhnijaa
open Go Go.AM Go.TM Go.Proofs
theorem copy_all {α : Type} (l : List α) (x : α) : List.take (List.length (List.replicate (Int.toNat (l.length : Int)) x)) l ++ List.drop l.length (List.replicate (Int.toNat (l.length : Int)) x) = l := by
  simp
def opn (q : Qu) (now : Int) : Int := cond (vd q) (cond (decide (0 ≤ now ∧ now ≤ 10000000)) (cond (decide (now < q.v7)) 18 0) 1) 1
theorem len_first {q : Qu} (h : vd q = true) : (first q).length ≤ 500 := by
  have hv := vd_iff.1 h
  have h1 := hv.len
  have h2 := hv.room
  omega
theorem v32_eq (q : Qu) (now : Int) (hf : Len (first q)) : v32 q.k q.a q.b q.c q.room q.ls q.v0 q.v1 q.v2 q.v3 q.v4 q.v5 q.v6 q.v7 q.seed now = some (cond (decide (opn q now = 0)) (.inr (0, first q)) (.inl (opn q now))) := by
  unfold v32 opn
  rw [v18_eq q hf, v40_eq]
  simp only [ok_some, val_some, cond_true, cond_nb]
  cases h : vd q with
  | false => rfl
  | true =>
    have hl := len_first h
    have hv := vd_iff.1 h
    simp only [cond_true]
    by_cases h1 : 0 ≤ now ∧ now ≤ 10000000
    case neg => rw [decide_eq_false h1]; rfl
    rw [decide_eq_true h1]
    simp only [cond_true]
    by_cases h2 : now < q.v7
    case pos => rw [decide_eq_true h2]; rfl
    rw [decide_eq_false h2, decide_eq_true (show (0 : Int) < (q.ls.length : Int) by rw [hv.one]; decide)]
    have e : q.ls.getD (Int.toNat (0 : Int)) [] = first q := rfl
    have w : IntKind.wrap IntKind.i64 (((first q).length : Int) + 1) = ((first q).length : Int) + 1 := wrap_id (by omega) (by omega)
    rw [e, w, decide_eq_true (show ((first q).length : Int) ≤ ((first q).length : Int) + 1 by omega), decide_eq_true (show ((first q).length : Int) + 1 ≤ ((2147483648 : Nat) : Int) by omega), copy_all]
    rfl
abbrev QT := Int × Int × Int × Int × Int × List (List QD) × Int × Int × Int × Int × Int × Int × Int × Int × Int
def putR (q : Qu) (p : PK) (now : Int) : Int × Int × Int × Int × Int × List (List QD) × Int × Int × Int × Int × Int × Int × Int × Int × Int × List PK × Int :=
  cond (pkOk p) (cond (decide (opn q now = 0))
    (cond (decide (((first q).length : Int) ≥ q.room))
      (q.k, q.a, q.b, q.c, q.room, [first q], q.v0, q.v1, q.v2, q.v3, q.v4, q.v5, q.v6, now, q.seed, [p], 0)
      (q.k, q.a, q.b, q.c, q.room, [first q ++ [(p, now)]], q.v0, q.v1, q.v2, q.v3, q.v4, q.v5, q.v6, now, q.seed, [], 0))
    (0, 0, 0, 0, 0, [], 0, 0, 0, 0, 0, 0, 0, 0, 0, [], opn q now))
   (0, 0, 0, 0, 0, [], 0, 0, 0, 0, 0, 0, 0, 0, 0, [], 1)
theorem opn_vd {q : Qu} {now : Int} (h : opn q now = 0) : vd q = true ∧ 0 ≤ now ∧ now ≤ 10000000 ∧ q.v7 ≤ now := by
  unfold opn at h
  cases hv : vd q with
  | false => rw [hv] at h; cases h
  | true =>
    rw [hv] at h
    simp only [cond_true] at h
    by_cases h1 : 0 ≤ now ∧ now ≤ 10000000
    case neg => rw [decide_eq_false h1] at h; cases h
    rw [decide_eq_true h1] at h
    simp only [cond_true] at h
    by_cases h2 : now < q.v7
    case pos => rw [decide_eq_true h2] at h; cases h
    exact ⟨rfl, h1.1, h1.2, by omega⟩
theorem L12_28_eq (q : Qu) (p : PK) (now : Int) (hf : Len (first q)) : L12_28_0 now q.k q.a q.b q.c q.room q.ls q.v0 q.v1 q.v2 q.v3 q.v4 q.v5 q.v6 q.v7 q.seed p.1 p.2.1 p.2.2.1 p.2.2.2.1 p.2.2.2.2.1 p.2.2.2.2.2.1 p.2.2.2.2.2.2.1 p.2.2.2.2.2.2.2 0 0 0 0 0 0 0 0 0 0 0 0 0 0 [] =
    some (cond (decide (opn q now = 0)) (cond (decide (((first q).length : Int) ≥ q.room)) (.inr (.inl (0, [p], first q))) (.inr (.inr (0, first q ++ [(p, now)])))) (.inl (opn q now, 0, 0, 0, 0, 0, 0, 0, 0, 0, 0, 0, 0, 0, 0))) := by
  unfold L12_28_0
  rw [v32_eq q now hf]
  by_cases h : opn q now = 0
  · have hl := len_first (opn_vd h).1
    rw [decide_eq_true h]
    simp only [cond_true, isL_inr, getR_inr, ok_some, val_some, cond_false]
    unfold L12_52_1 L12_68_0
    by_cases h1 : ((first q).length : Int) ≥ q.room
    · rw [decide_eq_true h1]; rfl
    · rw [decide_eq_false h1, decide_eq_true (show (first q).length + [((p.1, p.2.1, p.2.2.1, p.2.2.2.1, p.2.2.2.2.1, p.2.2.2.2.2.1, p.2.2.2.2.2.2.1, p.2.2.2.2.2.2.2), now)].length ≤ 2147483648 by simp; omega)]
      rfl
  · rw [decide_eq_false h]
    simp only [cond_false, isL_inl, getL_inl, cond_true]
    have : (opn q now != (0 : Int)) = true := by simpa using h
    rw [this]; rfl
theorem v12_eq (q : Qu) (p : PK) (now : Int) (hf : Len (first q)) : v12 q.k q.a q.b q.c q.room q.ls q.v0 q.v1 q.v2 q.v3 q.v4 q.v5 q.v6 q.v7 q.seed p.1 p.2.1 p.2.2.1 p.2.2.2.1 p.2.2.2.2.1 p.2.2.2.2.2.1 p.2.2.2.2.2.2.1 p.2.2.2.2.2.2.2 now = some (putR q p now) := by
  unfold v12 putR
  rw [v31_eq, L12_28_eq q p now hf]
  simp only [ok_some, val_some, cond_true, cond_nb]
  cases pkOk p with
  | false => rfl
  | true =>
    by_cases h : opn q now = 0
    · rw [decide_eq_true h]
      simp only [cond_true]
      by_cases h1 : ((first q).length : Int) ≥ q.room
      · rw [decide_eq_true h1]; rfl
      · rw [decide_eq_false h1]; rfl
    · rw [decide_eq_false h]; rfl
end Go.Proofs.Ythbinbcgjhnijaa
set_option linter.unusedVariables false
namespace Go.TM
open Go Go.AM
@[simp] theorem ok_some {α : Type} (x : α) : ok (some x) = true := rfl
@[simp] theorem val_some {α : Type} [Inhabited α] (x : α) : val (some x) = x := rfl
@[simp] theorem isL_inl {α β : Type} (x : α) : isL (some (.inl x : α ⊕ β)) = true := rfl
@[simp] theorem isL_inr {α β : Type} (x : β) : isL (some (.inr x : α ⊕ β)) = false := rfl
@[simp] theorem getL_inl {α β : Type} [Inhabited α] (x : α) : getL (some (.inl x : α ⊕ β)) = x := rfl
@[simp] theorem getR_inr {α β : Type} (x : β) : getR (some (.inr x : α ⊕ β)) = some x := rfl
theorem cond_nb {α : Type} (b : Bool) (x y : α) : cond (!b) x y = cond b y x := by cases b <;> rfl
theorem wrap_id {x : Int} (h1 : -9223372036854775808 ≤ x) (h2 : x ≤ 9223372036854775807) : IntKind.wrap IntKind.i64 x = x := by
  simp [IntKind.wrap, IntKind.bits, IntKind.signed]
  omega
theorem up1 {i : Nat} (h : i < 9223372036854775807) : IntKind.wrap IntKind.i64 ((i : Int) + 1) = ((i + 1 : Nat) : Int) := by rw [wrap_id (by omega) (by omega)]; omega
theorem dn1 {i : Nat} (h0 : 0 < i) (h : i ≤ 9223372036854775807) : IntKind.wrap IntKind.i64 ((i : Int) - 1) = ((i - 1 : Nat) : Int) := by rw [wrap_id (by omega) (by omega)]; omega
theorem getD_drop {α : Type} {l : List α} {i : Nat} (h : i < l.length) (d : α) : l.drop i = l.getD i d :: l.drop (i + 1) := by
  rw [List.drop_eq_getElem_cons h]
  congr 1
  simp [List.getD, List.getElem?_eq_getElem h]
theorem getD_in {α : Type} {l : List α} {i : Nat} (h : i < l.length) (d : α) : l.getD i d ∈ l := by
  have : l.getD i d = l[i] := by simp [List.getD, List.getElem?_eq_getElem h]
  rw [this]; exact List.getElem_mem h
abbrev Len {α : Type} (l : List α) : Prop := l.length ≤ 9223372036854775807
theorem and_cond (p q : Prop) [Decidable p] [Decidable q] : cond (decide p) (some (decide q)) (some false) = some (decide (p ∧ q)) := by
  by_cases h : p <;> simp [h]
theorem nand_cond (p q : Prop) [Decidable p] [Decidable q] : cond (decide p) (some false) (some (decide q)) = some (decide (¬ p ∧ q)) := by
  by_cases h : p <;> simp [h]
theorem bne_dec (x y : Int) : (x != y) = !decide (x = y) := rfl
theorem beq_dec (x y : Int) : (x == y) = decide (x = y) := rfl
theorem all_loop {m : Nat} (hm : m ≤ 9223372036854775807) (F : Nat → Int → Option (Bool ⊕ Unit)) (g : Nat → Bool)
    (hs : ∀ n (i : Nat), i < m → F (n + 1) (i : Int) = cond (g i) (F n ((i + 1 : Nat) : Int)) (some (.inl false))) (he : ∀ n, F (n + 1) (m : Int) = some (.inr ())) :
    F FU 0 = some (cond ((List.range m).all g) (.inr ()) (.inl false)) := by
  have key : ∀ (k n i : Nat), i + k = m → k < n → F n (i : Int) = some (cond ((List.range' i k).all g) (.inr ()) (.inl false)) := by
    intro k
    induction k with
    | zero =>
      intro n i h1 h2
      cases n with
      | zero => omega
      | succ n =>
        have : i = m := by omega
        subst this
        rw [he]; rfl
    | succ k ih =>
      intro n i h1 h2
      cases n with
      | zero => omega
      | succ n =>
        rw [hs n i (by omega), ih n (i + 1) (by omega) (by omega), List.range'_succ, List.all_cons]
        cases g i <;> rfl
  have := key m FU 0 (by omega) (by unfold FU; omega)
  rw [List.range_eq_range']
  exact this
theorem any_loop {m : Nat} (hm : m ≤ 9223372036854775807) (F : Nat → Int → Option (Bool ⊕ Unit)) (g : Nat → Bool)
    (hs : ∀ n (i : Nat), i < m → F (n + 1) (i : Int) = cond (g i) (some (.inl true)) (F n ((i + 1 : Nat) : Int))) (he : ∀ n, F (n + 1) (m : Int) = some (.inr ())) :
    F FU 0 = some (cond ((List.range m).any g) (.inl true) (.inr ())) := by
  have key : ∀ (k n i : Nat), i + k = m → k < n → F n (i : Int) = some (cond ((List.range' i k).any g) (.inl true) (.inr ())) := by
    intro k
    induction k with
    | zero =>
      intro n i h1 h2
      cases n with
      | zero => omega
      | succ n =>
        have : i = m := by omega
        subst this
        rw [he]; rfl
    | succ k ih =>
      intro n i h1 h2
      cases n with
      | zero => omega
      | succ n =>
        rw [hs n i (by omega), ih n (i + 1) (by omega) (by omega), List.range'_succ, List.any_cons]
        cases g i <;> rfl
  have := key m FU 0 (by omega) (by unfold FU; omega)
  rw [List.range_eq_range']
  exact this
theorem find_loop {m : Nat} (hm : m ≤ 9223372036854775807) (F : Nat → Int → Option (Int ⊕ Unit)) (g : Nat → Bool)
    (hs : ∀ n (i : Nat), i < m → F (n + 1) (i : Int) = cond (g i) (some (.inl (i : Int))) (F n ((i + 1 : Nat) : Int))) (he : ∀ n, F (n + 1) (m : Int) = some (.inr ())) :
    (∃ j : Nat, j < m ∧ F FU 0 = some (.inl (j : Int)) ∧ g j = true ∧ ∀ i, i < j → g i = false) ∨ (F FU 0 = some (.inr ()) ∧ ∀ i, i < m → g i = false) := by
  have key : ∀ (k n i : Nat), i + k = m → k < n → (∃ j : Nat, i ≤ j ∧ j < m ∧ F n (i : Int) = some (.inl (j : Int)) ∧ g j = true ∧ ∀ x, i ≤ x → x < j → g x = false) ∨ (F n (i : Int) = some (.inr ()) ∧ ∀ x, i ≤ x → x < m → g x = false) := by
    intro k
    induction k with
    | zero =>
      intro n i h1 h2
      cases n with
      | zero => omega
      | succ n =>
        have : i = m := by omega
        subst this
        exact .inr ⟨he n, fun x h1 h2 => by omega⟩
    | succ k ih =>
      intro n i h1 h2
      cases n with
      | zero => omega
      | succ n =>
        rw [hs n i (by omega)]
        cases hg : g i with
        | true => exact .inl ⟨i, Nat.le_refl _, by omega, rfl, hg, fun x h1 h2 => by omega⟩
        | false =>
          rcases ih n (i + 1) (by omega) (by omega) with ⟨j, h3, h4, h5, h6, h7⟩ | ⟨h3, h4⟩
          · refine .inl ⟨j, by omega, h4, h5, h6, fun x hx1 hx2 => ?_⟩
            by_cases e : x = i
            · rw [e]; exact hg
            · exact h7 x (by omega) hx2
          · refine .inr ⟨h3, fun x hx1 hx2 => ?_⟩
            by_cases e : x = i
            · rw [e]; exact hg
            · exact h4 x (by omega) hx2
  rcases key m FU 0 (by omega) (by unfold FU; omega) with ⟨j, h3, h4, h5, h6, h7⟩ | ⟨h3, h4⟩
  · exact .inl ⟨j, h4, h5, h6, fun x hx => h7 x (by omega) hx⟩
  · exact .inr ⟨h3, fun x hx => h4 x (by omega) hx⟩
theorem fold_loop {m : Nat} (hm : m ≤ 9223372036854775807) {σ ρ : Type} (F : Nat → Int → σ → Option ρ) (f : Nat → σ → σ) (I : Nat → σ → Prop) (fin : σ → ρ)
    (hs : ∀ n (i : Nat) s, i < m → I i s → F (n + 1) (i : Int) s = F n ((i + 1 : Nat) : Int) (f i s)) (hI : ∀ i s, i < m → I i s → I (i + 1) (f i s)) (he : ∀ n s, I m s → F (n + 1) (m : Int) s = some (fin s)) {s0 : σ} (h0 : I 0 s0) :
    F FU 0 s0 = some (fin ((List.range m).foldl (fun s i => f i s) s0)) ∧ I m ((List.range m).foldl (fun s i => f i s) s0) := by
  have key : ∀ (k n i : Nat) (s : σ), i + k = m → k < n → I i s → F n (i : Int) s = some (fin ((List.range' i k).foldl (fun s i => f i s) s)) ∧ I m ((List.range' i k).foldl (fun s i => f i s) s) := by
    intro k
    induction k with
    | zero =>
      intro n i s h1 h2 h3
      cases n with
      | zero => omega
      | succ n =>
        have : i = m := by omega
        subst this
        exact ⟨he n s h3, h3⟩
    | succ k ih =>
      intro n i s h1 h2 h3
      cases n with
      | zero => omega
      | succ n =>
        rw [hs n i s (by omega) h3, List.range'_succ, List.foldl_cons]
        exact ih n (i + 1) _ (by omega) (by omega) (hI i s (by omega) h3)
  have := key m FU 0 s0 (by omega) (by unfold FU; omega) h0
  rw [List.range_eq_range']
  exact this
theorem all_range {α : Type} (l : List α) (d : α) (p : α → Bool) : (List.range l.length).all (fun i => p (l.getD i d)) = l.all p := by
  apply Bool.eq_iff_iff.2
  simp only [List.all_eq_true, List.mem_range]
  constructor
  · intro h x hx
    obtain ⟨i, hi, rfl⟩ := List.getElem_of_mem hx
    have := h i hi
    simpa [List.getD, List.getElem?_eq_getElem hi] using this
  · intro h i hi
    exact h _ (getD_in hi d)
theorem any_range {α : Type} (l : List α) (d : α) (p : α → Bool) : (List.range l.length).any (fun i => p (l.getD i d)) = l.any p := by
  apply Bool.eq_iff_iff.2
  simp only [List.any_eq_true, List.mem_range]
  constructor
  · rintro ⟨i, hi, h⟩; exact ⟨_, getD_in hi d, h⟩
  · rintro ⟨x, hx, h⟩
    obtain ⟨i, hi, rfl⟩ := List.getElem_of_mem hx
    exact ⟨i, hi, by simpa [List.getD, List.getElem?_eq_getElem hi] using h⟩
theorem map_range {α : Type} (l : List α) (d : α) : (List.range l.length).map (fun i => l.getD i d) = l := by
  apply List.ext_getElem?
  intro i
  rw [List.getElem?_map]
  by_cases hi : i < l.length
  · rw [List.getElem?_range hi]
    simp [List.getD, List.getElem?_eq_getElem hi]
  · rw [List.getElem?_eq_none (by simpa using hi), List.getElem?_eq_none (by omega)]; rfl
theorem foldl_range {α σ : Type} (l : List α) (d : α) (g : σ → α → σ) (s : σ) : (List.range l.length).foldl (fun s i => g s (l.getD i d)) s = l.foldl g s := by
  conv => rhs; rw [← map_range l d, List.foldl_map]
theorem at_loop {m : Nat} (hm : m ≤ 9223372036854775807) {σ ρ : Type} (F : Nat → Int → σ → Option ρ) (g : Nat → σ) (r : ρ)
    (hs : ∀ n (i : Nat), i < m → F (n + 1) (i : Int) (g i) = F n ((i + 1 : Nat) : Int) (g (i + 1))) (he : ∀ n, F (n + 1) (m : Int) (g m) = some r) : F FU 0 (g 0) = some r := by
  have key : ∀ (k n i : Nat), i + k = m → k < n → F n (i : Int) (g i) = some r := by
    intro k
    induction k with
    | zero =>
      intro n i h1 h2
      cases n with
      | zero => omega
      | succ n => rw [show i = m by omega]; exact he n
    | succ k ih =>
      intro n i h1 h2
      cases n with
      | zero => omega
      | succ n => rw [hs n i (by omega)]; exact ih n (i + 1) (by omega) (by omega)
  exact key m FU 0 (by omega) (by unfold FU; omega)
theorem idx_of {m : Nat} (hm : m ≤ 9223372036854775807) (F : Nat → Int → Option (Int ⊕ Unit)) (g : Nat → Bool)
    (hs : ∀ n (i : Nat), i < m → F (n + 1) (i : Int) = cond (g i) (some (.inl (i : Int))) (F n ((i + 1 : Nat) : Int))) (he : ∀ n, F (n + 1) (m : Int) = some (.inr ())) :
    ∃ j : Int, cond (isL (F FU 0)) (some (getL (F FU 0))) (cond (ok (getR (F FU 0))) (some (-1 : Int)) none) = some j ∧ decide (j ≥ 0) = (List.range m).any g := by
  rcases find_loop hm F g hs he with ⟨j, h1, h2, h3, _⟩ | ⟨h2, h3⟩
  · refine ⟨(j : Int), by rw [h2]; rfl, ?_⟩
    rw [decide_eq_true (show (j : Int) ≥ 0 by omega), eq_comm, List.any_eq_true]
    exact ⟨j, List.mem_range.2 h1, h3⟩
  · refine ⟨-1, by rw [h2]; rfl, ?_⟩
    rw [decide_eq_false (show ¬ (-1 : Int) ≥ 0 by omega), eq_comm, List.any_eq_false]
    intro x hx
    rw [h3 x (List.mem_range.1 hx)]; simp
def sumN : Nat → (Nat → Int) → Int
  | 0, _ => 0
  | n + 1, f => sumN n f + f n
theorem sumN_le {n : Nat} {f g : Nat → Int} (h : ∀ i, i < n → f i ≤ g i) : sumN n f ≤ sumN n g := by
  induction n with
  | zero => exact Int.le_refl _
  | succ n ih => exact Int.add_le_add (ih fun i hi => h i (by omega)) (h n (by omega))
theorem sumN_congr {n : Nat} {f g : Nat → Int} (h : ∀ i, i < n → f i = g i) : sumN n f = sumN n g := by
  induction n with
  | zero => rfl
  | succ n ih => simp only [sumN]; rw [ih fun i hi => h i (by omega), h n (by omega)]
theorem sumN_const (n : Nat) (c : Int) : sumN n (fun _ => c) = n * c := by
  induction n with
  | zero => simp [sumN]
  | succ n ih => simp only [sumN]; rw [ih]; push_cast; rw [Int.add_mul]; omega
theorem sumN_zero (n : Nat) : sumN n (fun _ => 0) = 0 := by rw [sumN_const]; simp
theorem sumN_nonneg {n : Nat} {f : Nat → Int} (h : ∀ i, i < n → 0 ≤ f i) : 0 ≤ sumN n f := by
  have := sumN_le (n := n) (f := fun _ => 0) (g := f) h
  rw [sumN_zero] at this; exact this
theorem sumN_bd {n m : Nat} {f : Nat → Int} {c : Int} (hn : n ≤ m) (h : ∀ i, i < n → 0 ≤ f i ∧ f i ≤ c) (hc : 0 ≤ c) : 0 ≤ sumN n f ∧ sumN n f ≤ m * c := by
  refine ⟨sumN_nonneg fun i hi => (h i hi).1, ?_⟩
  have := sumN_le (n := n) (f := f) (g := fun _ => c) fun i hi => (h i hi).2
  rw [sumN_const] at this
  exact Int.le_trans this (Int.mul_le_mul_of_nonneg_right (by omega) hc)
theorem sumN_add (n : Nat) (f g : Nat → Int) : sumN n (fun i => f i + g i) = sumN n f + sumN n g := by
  induction n with
  | zero => rfl
  | succ n ih => simp only [sumN]; rw [ih]; omega
theorem sumN_mul (n : Nat) (f : Nat → Int) (c : Int) : sumN n (fun i => c * f i) = c * sumN n f := by
  induction n with
  | zero => simp [sumN]
  | succ n ih => simp only [sumN]; rw [ih, Int.mul_add]
theorem sumN_mul' (n : Nat) (f : Nat → Int) (c : Int) : sumN n (fun i => f i * c) = sumN n f * c := by
  rw [Int.mul_comm, ← sumN_mul]; exact sumN_congr fun i _ => Int.mul_comm _ _
theorem sumN_swap (n m : Nat) (f : Nat → Nat → Int) : sumN n (fun i => sumN m fun j => f i j) = sumN m (fun j => sumN n fun i => f i j) := by
  induction n with
  | zero => exact (sumN_zero m).symm
  | succ n ih => simp only [sumN]; rw [ih, ← sumN_add]
theorem sumN_one (n : Nat) {f : Nat → Int} {i : Nat} (hi : i < n) (h : ∀ j, j < n → 0 ≤ f j) : f i ≤ sumN n f := by
  induction n with
  | zero => omega
  | succ n ih =>
    simp only [sumN]
    by_cases hn : i = n
    · have := sumN_nonneg (n := n) (f := f) fun j hj => h j (by omega)
      rw [hn]; omega
    · have := ih (by omega) fun j hj => h j (by omega)
      have := h n (by omega)
      omega
theorem ceil_lt {p x c : Int} (hp : 0 < p) (hx : 0 ≤ x) (hc : 0 < c) : x < Int.tdiv (c + p - 1) p ↔ p * x < c := by
  rw [Int.tdiv_eq_ediv_of_nonneg (by omega)]
  have h1 := Int.mul_ediv_add_emod (c + p - 1) p
  have h2 := Int.emod_nonneg (c + p - 1) (show p ≠ 0 by omega)
  have h3 := Int.emod_lt_of_pos (c + p - 1) hp
  constructor
  · intro h
    have h4 : p * (x + 1) ≤ p * ((c + p - 1) / p) := Int.mul_le_mul_of_nonneg_left (by omega) (by omega)
    rw [Int.mul_add, Int.mul_one] at h4
    omega
  · intro h
    apply Int.lt_of_not_ge
    intro h4
    have h5 : p * ((c + p - 1) / p) ≤ p * x := Int.mul_le_mul_of_nonneg_left h4 (by omega)
    omega
theorem ceil_le {p c : Int} (hp : 0 < p) (hc : 0 < c) : 0 ≤ Int.tdiv (c + p - 1) p ∧ Int.tdiv (c + p - 1) p ≤ c := by
  refine ⟨?_, ?_⟩
  · rw [Int.tdiv_eq_ediv_of_nonneg (by omega)]; exact Int.ediv_nonneg (by omega) (by omega)
  · apply Int.le_of_not_gt
    intro h
    have := (ceil_lt hp (by omega) hc).1 h
    have h2 : 1 * c ≤ p * c := Int.mul_le_mul_of_nonneg_right (by omega) (by omega)
    omega
end Go.TM
set_option linter.unusedVariables false
set_option maxRecDepth 100000
namespace Go.Proofs.Ythbinbcgjhnijaa
open Go Go.AM Go.TM Go.Proofs
abbrev DQ : QD := (PKz, (0 : Int))
theorem dn1' {i : Nat} (h0 : 0 < i) (h : i ≤ 9223372036854775807) : IntKind.wrap IntKind.i64 ((i : Int) - 1) = ((i - 1 : Nat) : Int) := by rw [wrap_id (by omega) (by omega)]; omega
theorem l43 (l : List QD) (hl : Len l) (hi0 : Int) (hhi : hi0 ≤ 10000000) : ∀ (k n i : Nat) (last : Int), i + k = l.length → k < n → (i = 0 → last = 0) → (0 < i → last = (l.getD (i - 1) DQ).2 ∧ 0 ≤ last) →
    L43_0_0 n l hi0 (i : Int) = some (cond (lst hi0 last (l.drop i)) (.inr ()) (.inl false)) := by
  intro k
  induction k with
  | zero =>
    intro n i last h1 h2 h3 h4
    cases n with
    | zero => omega
    | succ n =>
      rw [qL43_0_0, decide_eq_false (show ¬ ((i : Int) < (l.length : Int)) by omega), List.drop_of_length_le (show l.length ≤ i by omega)]
      rfl
  | succ k ih =>
    intro n i last h1 h2 h3 h4
    cases n with
    | zero => omega
    | succ n =>
      have hi : i < l.length := by omega
      have hl' : l.length ≤ 9223372036854775807 := hl
      rw [qL43_0_0, decide_eq_true (show (i : Int) < (l.length : Int) by omega), decide_eq_true (show (0 : Int) ≤ (i : Int) by omega), up1 (by omega)]
      simp only [cond_true, Int.toNat_natCast, v27_eq, v26_eq, ok_some, val_some, cond_nb]
      rw [getD_drop hi DQ, lst]
      cases pkOk (l.getD i DQ).1 with
      | false => rfl
      | true =>
        simp only [cond_true]
        have step : 0 ≤ (l.getD i DQ).2 → L43_0_0 n l hi0 ((i + 1 : Nat) : Int) = some (cond (lst hi0 (l.getD i DQ).2 (l.drop (i + 1))) (.inr ()) (.inl false)) := fun h0 => ih n (i + 1) _ (by omega) (by omega) (by omega) fun _ => ⟨by simp, h0⟩
        have hlast : 0 ≤ last := by
          by_cases hz : i = 0
          · rw [h3 hz]; omega
          · exact (h4 (by omega)).2
        by_cases c1 : 0 ≤ (l.getD i DQ).2 ∧ (l.getD i DQ).2 ≤ 10000000
        case neg =>
          rw [decide_eq_false c1, decide_eq_false (show ¬ (last ≤ (l.getD i DQ).2 ∧ (l.getD i DQ).2 ≤ hi0) by omega)]; rfl
        rw [decide_eq_true c1]
        simp only [cond_true]
        by_cases c2 : (l.getD i DQ).2 > hi0
        · rw [decide_eq_true c2, decide_eq_false (show ¬ (last ≤ (l.getD i DQ).2 ∧ (l.getD i DQ).2 ≤ hi0) by omega)]; rfl
        rw [decide_eq_false c2]
        simp only [cond_false]
        by_cases hz : i = 0
        · subst hz
          rw [decide_eq_false (show ¬ ((0 : Nat) : Int) > 0 by omega), decide_eq_true (show last ≤ (l.getD 0 DQ).2 ∧ (l.getD 0 DQ).2 ≤ hi0 by rw [h3 rfl]; omega)]
          simp only [cond_true, cond_false]
          exact step (by omega)
        · obtain ⟨h5, h6⟩ := h4 (by omega)
          rw [decide_eq_true (show (i : Int) > 0 by omega), dn1' (by omega) (by omega), decide_eq_true (show (0 : Int) ≤ ((i - 1 : Nat) : Int) by omega), decide_eq_true (show ((i - 1 : Nat) : Int) < (l.length : Int) by omega)]
          simp only [cond_true, Int.toNat_natCast]
          by_cases c3 : (l.getD i DQ).2 < (l.getD (i - 1) DQ).2
          · rw [decide_eq_true c3, decide_eq_false (show ¬ (last ≤ (l.getD i DQ).2 ∧ (l.getD i DQ).2 ≤ hi0) by omega)]; rfl
          · rw [decide_eq_false c3, decide_eq_true (show last ≤ (l.getD i DQ).2 ∧ (l.getD i DQ).2 ≤ hi0 by omega)]
            simp only [cond_true, cond_false]
            exact step (by omega)
theorem v43_eq (l : List QD) (hl : Len l) (hi0 : Int) (hhi : hi0 ≤ 10000000) : v43 l hi0 = some (lst hi0 0 l) := by
  unfold v43
  have h := l43 l hl hi0 hhi l.length FU 0 0 (by omega) (by have : l.length ≤ 9223372036854775807 := hl; unfold FU; omega) (fun _ => rfl) (fun h => by omega)
  simp only [Int.natCast_zero, List.drop_zero] at h
  rw [h]
  cases lst hi0 0 l <;> rfl
theorem v19_vd (q : Qu) (hf : Len (first q)) : ∃ x, v19 q.k q.a q.b q.c q.room q.ls q.v0 q.v1 q.v2 q.v3 q.v4 q.v5 q.v6 q.v7 q.seed = some x ∧ (x = true → Vd q) := by
  unfold v19
  rw [v26_eq]
  simp only [ok_some, val_some, cond_true, cond_nb]
  have no : ∃ x, some false = some x ∧ (x = true → Vd q) := ⟨false, rfl, fun h => by cases h⟩
  by_cases h1 : q.k = 3
  case neg => rw [show (q.k != (3 : Int)) = true by simpa using h1]; exact no
  rw [show (q.k != (3 : Int)) = false by simpa using h1]
  by_cases h2 : q.a < 0
  case pos => rw [decide_eq_true h2]; exact no
  rw [decide_eq_false h2]
  by_cases h3 : q.a > 1000000
  case pos => rw [decide_eq_true h3]; exact no
  rw [decide_eq_false h3]
  by_cases h4 : q.b < 1
  case pos => rw [decide_eq_true h4]; exact no
  rw [decide_eq_false h4]
  by_cases h5 : q.b > 1000000
  case pos => rw [decide_eq_true h5]; exact no
  rw [decide_eq_false h5]
  by_cases h6 : q.c = 0
  case neg => rw [show (q.c != (0 : Int)) = true by simpa using h6]; exact no
  rw [show (q.c != (0 : Int)) = false by simpa using h6]
  by_cases h7 : q.room < 1
  case pos => rw [decide_eq_true h7]; exact no
  rw [decide_eq_false h7]
  by_cases h8 : q.room > 500
  case pos => rw [decide_eq_true h8]; exact no
  rw [decide_eq_false h8]
  by_cases h9 : q.ls.length = 1
  case neg => rw [show ((q.ls.length : Int) != (1 : Int)) = true by simp; omega]; exact no
  rw [show ((q.ls.length : Int) != (1 : Int)) = false by simp; omega]
  by_cases h10 : q.seed = 0
  case neg => rw [show (q.seed != (0 : Int)) = true by simpa using h10]; exact no
  rw [show (q.seed != (0 : Int)) = false by simpa using h10]
  by_cases h11 : 0 ≤ q.v7 ∧ q.v7 ≤ 10000000
  case neg => rw [decide_eq_false h11]; exact no
  rw [decide_eq_true h11]
  simp only [cond_true, cond_false]
  have w1 : IntKind.wrap IntKind.i64 (q.v7 + q.b) = q.v7 + q.b := wrap_id (by omega) (by omega)
  have w2 : IntKind.wrap IntKind.i64 (q.v7 + q.b + 1) = q.v7 + q.b + 1 := wrap_id (by omega) (by omega)
  have e92 : (0 ≤ q.v0 ∧ q.v0 ≤ q.v7 + q.b + 1) → (0 ≤ q.v1 ∧ q.v1 ≤ 1000000000) → (q.v0 = 0 → q.v1 = 0) → q.v2 = 0 → q.v3 = 0 → q.v4 = 0 → q.v5 = 0 → q.v6 = 0 →
      ∃ x, L19_92_0 q.k q.a q.b q.c q.room q.ls q.v0 q.v1 q.v2 q.v3 q.v4 q.v5 q.v6 q.v7 q.seed = some x ∧ (x = true → Vd q) := by
    intro a0 a1 a01 b2 b3 b4 b5 b6
    unfold L19_92_0
    have e : q.ls.getD (Int.toNat (0 : Int)) [] = first q := rfl
    rw [e, v43_eq _ hf _ h11.2, decide_eq_true (show (0 : Int) < (q.ls.length : Int) by omega)]
    simp only [cond_true, ok_some, val_some]
    by_cases c : ((first q).length : Int) ≤ q.room
    case neg => rw [decide_eq_false c]; exact no
    rw [decide_eq_true c]
    exact ⟨_, rfl, fun hx => ⟨h1, by omega, by omega, h6, by omega, h9, h10, h11, a0, a1, a01, c, b2, b3, b4, b5, b6, hx⟩⟩
  have e52 : (0 ≤ q.v0 ∧ q.v0 ≤ q.v7 + q.b + 1) → (0 ≤ q.v1 ∧ q.v1 ≤ 1000000000) → (q.v0 = 0 → q.v1 = 0) →
      ∃ x, (cond (q.v2 != 0) (some false) (cond (q.v3 != 0) (some false) (cond (q.v4 != 0) (some false) (cond (q.v5 != 0) (some false) (cond (q.v6 != 0) (some false) (cond (ok (L19_92_0 q.k q.a q.b q.c q.room q.ls q.v0 q.v1 q.v2 q.v3 q.v4 q.v5 q.v6 q.v7 q.seed)) (some (val (L19_92_0 q.k q.a q.b q.c q.room q.ls q.v0 q.v1 q.v2 q.v3 q.v4 q.v5 q.v6 q.v7 q.seed))) none)))))) = some x ∧ (x = true → Vd q) := by
    intro a0 a1 a01
    by_cases b2 : q.v2 = 0
    case neg => rw [show (q.v2 != (0 : Int)) = true by simpa using b2]; exact no
    by_cases b3 : q.v3 = 0
    case neg => rw [show (q.v2 != (0 : Int)) = false by simpa using b2, show (q.v3 != (0 : Int)) = true by simpa using b3]; exact no
    by_cases b4 : q.v4 = 0
    case neg => rw [show (q.v2 != (0 : Int)) = false by simpa using b2, show (q.v3 != (0 : Int)) = false by simpa using b3, show (q.v4 != (0 : Int)) = true by simpa using b4]; exact no
    by_cases b5 : q.v5 = 0
    case neg => rw [show (q.v2 != (0 : Int)) = false by simpa using b2, show (q.v3 != (0 : Int)) = false by simpa using b3, show (q.v4 != (0 : Int)) = false by simpa using b4, show (q.v5 != (0 : Int)) = true by simpa using b5]; exact no
    by_cases b6 : q.v6 = 0
    case neg => rw [show (q.v2 != (0 : Int)) = false by simpa using b2, show (q.v3 != (0 : Int)) = false by simpa using b3, show (q.v4 != (0 : Int)) = false by simpa using b4, show (q.v5 != (0 : Int)) = false by simpa using b5, show (q.v6 != (0 : Int)) = true by simpa using b6]; exact no
    rw [show (q.v2 != (0 : Int)) = false by simpa using b2, show (q.v3 != (0 : Int)) = false by simpa using b3, show (q.v4 != (0 : Int)) = false by simpa using b4, show (q.v5 != (0 : Int)) = false by simpa using b5, show (q.v6 != (0 : Int)) = false by simpa using b6]
    obtain ⟨x, hx, hv⟩ := e92 a0 a1 a01 b2 b3 b4 b5 b6
    rw [hx]
    exact ⟨x, rfl, hv⟩
  have e36 : ∃ x, L19_36_0 q.k q.a q.b q.c q.room q.ls q.v0 q.v1 q.v2 q.v3 q.v4 q.v5 q.v6 q.v7 q.seed q.k q.a q.b q.c = some x ∧ (x = true → Vd q) := by
    unfold L19_36_0 L19_52_0 L19_52_1
    rw [w1, w2]
    by_cases a0 : q.v0 < 0
    case pos => rw [decide_eq_true a0]; exact no
    rw [decide_eq_false a0]
    by_cases a1 : q.v0 > q.v7 + q.b + 1
    case pos => rw [decide_eq_true a1]; exact no
    rw [decide_eq_false a1]
    by_cases a2 : q.v1 < 0
    case pos => rw [decide_eq_true a2]; exact no
    rw [decide_eq_false a2]
    by_cases a3 : q.v1 > 1000000000
    case pos => rw [decide_eq_true a3]; exact no
    rw [decide_eq_false a3]
    simp only [cond_false]
    by_cases z : q.v0 = 0
    · rw [show (q.v0 == (0 : Int)) = true by simpa using z]
      by_cases z1 : q.v1 = 0
      · rw [show (q.v1 != (0 : Int)) = false by simpa using z1]
        obtain ⟨x, hx, hv⟩ := e52 (by omega) (by omega) (fun _ => z1)
        simp only [cond_true, cond_false]
        rw [hx]
        exact ⟨x, rfl, hv⟩
      · rw [show (q.v1 != (0 : Int)) = true by simpa using z1]; exact no
    · rw [show (q.v0 == (0 : Int)) = false by simpa using z]
      obtain ⟨x, hx, hv⟩ := e52 (by omega) (by omega) (fun h => absurd h z)
      simp only [cond_false]
      rw [hx]
      exact ⟨x, rfl, hv⟩
  obtain ⟨x, hx, hv⟩ := e36
  rw [hx]
  exact ⟨x, rfl, hv⟩
theorem v11_eq (q : Qu) (hl : Len q.ls) : ∃ x, v11 q.k q.a q.b q.c q.room q.ls q.v0 q.v1 q.v2 q.v3 q.v4 q.v5 q.v6 q.v7 q.seed = some x ∧ (x = true → Len (first q)) := by
  have hl' : q.ls.length ≤ 9223372036854775807 := hl
  have h0 : L11_0_0 FU 0 q.k q.a q.b q.c q.room q.ls q.v0 q.v1 q.v2 q.v3 q.v4 q.v5 q.v6 q.v7 q.seed = some (cond ((List.range q.ls.length).all fun i => decide ((q.ls.getD i []).length ≤ 600)) (.inr ()) (.inl false)) := by
    refine all_loop (m := q.ls.length) hl' (fun n j => L11_0_0 n j q.k q.a q.b q.c q.room q.ls q.v0 q.v1 q.v2 q.v3 q.v4 q.v5 q.v6 q.v7 q.seed) _ (fun n i hi => ?_) fun n => ?_
    · show L11_0_0 (n + 1) _ _ _ _ _ _ _ _ _ _ _ _ _ _ _ _ = _
      rw [qL11_0_0, decide_eq_true (show (i : Int) < (q.ls.length : Int) by omega), decide_eq_true (show (0 : Int) ≤ (i : Int) by omega), up1 (by omega)]
      simp only [cond_true, Int.toNat_natCast]
      by_cases c : (q.ls.getD i []).length ≤ 600
      · rw [decide_eq_true c, decide_eq_false (show ¬ (((q.ls.getD i []).length : Int) > 600) by omega)]; rfl
      · rw [decide_eq_false c, decide_eq_true (show (((q.ls.getD i []).length : Int) > 600) by omega)]; rfl
    · show L11_0_0 (n + 1) _ _ _ _ _ _ _ _ _ _ _ _ _ _ _ _ = _
      rw [qL11_0_0, decide_eq_false (show ¬ (q.ls.length : Int) < (q.ls.length : Int) by omega)]
      rfl
  unfold v11
  rw [h0]
  cases ha : (List.range q.ls.length).all fun i => decide ((q.ls.getD i []).length ≤ 600) with
  | false => exact ⟨false, rfl, fun h => by cases h⟩
  | true =>
    refine ⟨_, rfl, fun _ => ?_⟩
    show (q.ls.getD 0 []).length ≤ _
    by_cases h : 0 < q.ls.length
    · have := of_decide_eq_true (List.all_eq_true.1 ha 0 (List.mem_range.2 h))
      omega
    · rw [List.getD_eq_getElem?_getD, List.getElem?_eq_none (by omega)]; simp
theorem v14_err (q : Qu) (now : Int) (hf : Len (first q)) (h : opn q now ≠ 0) : v14 q.k q.a q.b q.c q.room q.ls q.v0 q.v1 q.v2 q.v3 q.v4 q.v5 q.v6 q.v7 q.seed now =
    some (0, 0, 0, 0, 0, [], 0, 0, 0, 0, 0, 0, 0, 0, 0, 0, 0, 0, 0, 0, 0, false, false, false, [], opn q now) := by
  have e := v32_eq q now hf
  rw [decide_eq_false h] at e
  unfold v14
  rw [e]
  simp only [cond_false, isL_inl, getL_inl, cond_true]
  rw [show (opn q now != (0 : Int)) = true by simpa using h]
  rfl
def hitS (a b now v0 v1 wait : Int) : Bool × Int × Int :=
  cond (decide (wait < a)) (false, 0, 0) (cond (decide (v0 = 0)) (false, now + b + 1, v1) (cond (decide (now ≥ v0 - 1)) (true, v0 + max 1 (Int.tdiv b (min 1000000000 (v1 + 1) + 1)), min 1000000000 (v1 + 1)) (false, v0, v1)))
theorem step_le {b v1 : Int} (hb : 1 ≤ b ∧ b ≤ 1000000) (h1 : 0 ≤ v1 ∧ v1 ≤ 1000000000) : 0 ≤ Int.tdiv b (min 1000000000 (v1 + 1) + 1) ∧ Int.tdiv b (min 1000000000 (v1 + 1) + 1) ≤ b := by
  have hm : 0 < min 1000000000 (v1 + 1) + 1 := by omega
  rw [Int.tdiv_eq_ediv_of_nonneg (by omega)]
  refine ⟨Int.ediv_nonneg (by omega) (by omega), ?_⟩
  exact Int.ediv_le_self _ (by omega)
theorem hitS_bd {a b now v0 v1 wait : Int} (hn : 0 ≤ now ∧ now ≤ 10000000) (hb : 1 ≤ b ∧ b ≤ 1000000) {m : Int} (h0 : 0 ≤ v0 ∧ v0 ≤ m) (hm : 11000001 ≤ m) (h1 : 0 ≤ v1 ∧ v1 ≤ 1000000000) :
    (0 ≤ (hitS a b now v0 v1 wait).2.1 ∧ (hitS a b now v0 v1 wait).2.1 ≤ m + 1000000) ∧ 0 ≤ (hitS a b now v0 v1 wait).2.2 ∧ (hitS a b now v0 v1 wait).2.2 ≤ 1000000000 := by
  have hs := step_le hb h1
  unfold hitS
  by_cases c1 : wait < a
  · rw [decide_eq_true c1]; simp only [cond_true]; omega
  rw [decide_eq_false c1]
  by_cases c2 : v0 = 0
  · rw [decide_eq_true c2]; simp only [cond_true, cond_false]; omega
  rw [decide_eq_false c2]
  by_cases c3 : now ≥ v0 - 1
  · rw [decide_eq_true c3]; simp only [cond_true, cond_false]; omega
  · rw [decide_eq_false c3]; simp only [cond_false]; omega
theorem v37_eq {a b now v0 v1 wait : Int} (hn : 0 ≤ now ∧ now ≤ 10000000) (hb : 1 ≤ b ∧ b ≤ 1000000) (h0 : 0 ≤ v0 ∧ v0 ≤ 9000000000000) (h1 : 0 ≤ v1 ∧ v1 ≤ 1000000000) (k c room v2 v3 v4 v5 v6 v7 seed : Int) (x : Nat) (y : List QD) :
    v37 wait k a b c room v0 v1 v2 v3 v4 v5 v6 v7 seed now x y = some (hitS a b now v0 v1 wait) := by
  unfold v37 v38 hitS
  have hs := step_le hb h1
  have w1 : IntKind.wrap IntKind.i64 (now + b) = now + b := wrap_id (by omega) (by omega)
  have w2 : IntKind.wrap IntKind.i64 (now + b + 1) = now + b + 1 := wrap_id (by omega) (by omega)
  have w3 : IntKind.wrap IntKind.i64 (v0 - 1) = v0 - 1 := wrap_id (by omega) (by omega)
  have w4 : IntKind.wrap IntKind.i64 (v1 + 1) = v1 + 1 := wrap_id (by omega) (by omega)
  have w5 : IntKind.wrap IntKind.i64 (min 1000000000 (v1 + 1) + 1) = min 1000000000 (v1 + 1) + 1 := wrap_id (by omega) (by omega)
  have w6 : IntKind.wrap IntKind.i64 (Int.tdiv b (min 1000000000 (v1 + 1) + 1)) = Int.tdiv b (min 1000000000 (v1 + 1) + 1) := wrap_id (by omega) (by omega)
  have w7 : IntKind.wrap IntKind.i64 (v0 + max 1 (Int.tdiv b (min 1000000000 (v1 + 1) + 1))) = v0 + max 1 (Int.tdiv b (min 1000000000 (v1 + 1) + 1)) := wrap_id (by omega) (by omega)
  simp only [w1, w2, w3, w4, w5, w6, w7, val_some]
  rw [decide_eq_true (show min 1000000000 (v1 + 1) + 1 ≠ 0 by omega), beq_dec]
  simp only [cond_true]
  cases decide (wait < a) <;> cases decide (v0 = 0) <;> cases decide (now ≥ v0 - 1) <;> rfl
def takeS (a b now : Int) : List QD → Int → Int → List PK → List QD × Int × Int × Option PK × List PK
  | [], _, _, d => ([], 0, 0, none, d)
  | w :: r, v0, v1, d =>
    cond ((hitS a b now v0 v1 (now - w.2)).1 && !w.1.2.2.2.2.2.2.1) (takeS a b now r (hitS a b now v0 v1 (now - w.2)).2.1 (hitS a b now v0 v1 (now - w.2)).2.2 (d ++ [w.1]))
      (r, (hitS a b now v0 v1 (now - w.2)).2.1, (hitS a b now v0 v1 (now - w.2)).2.2, some (w.1.1, w.1.2.1, w.1.2.2.1, w.1.2.2.2.1, w.1.2.2.2.2.1, w.1.2.2.2.2.2.1, w.1.2.2.2.2.2.2.1, w.1.2.2.2.2.2.2.2 || (hitS a b now v0 v1 (now - w.2)).1), d)
theorem v36_eq (p : PK) (d : List PK) (hd : d.length ≤ 1000) : v36 p.1 p.2.1 p.2.2.1 p.2.2.2.1 p.2.2.2.2.1 p.2.2.2.2.2.1 p.2.2.2.2.2.2.1 p.2.2.2.2.2.2.2 d = some (d ++ [p]) := by
  unfold v36
  rw [decide_eq_true (show d.length + [(p.1, p.2.1, p.2.2.1, p.2.2.2.1, p.2.2.2.2.1, p.2.2.2.2.2.1, p.2.2.2.2.2.2.1, p.2.2.2.2.2.2.2)].length ≤ 2147483648 by simp; omega)]
  rfl
theorem l14_68 (s1 s2 s3 s4 s5 s6 s7 s8 s9 s10 s11 s12 s13 s14 s15 s16 s17 s18 s19 s20 : Int) (s21 s22 : Bool) (p : PK) (at' : Int) (d : List PK) (k a b c room v0 v1 v2 v3 v4 v5 v6 v7 seed now : Int) (l : List QD) (y : List (List QD))
    (hn : 0 ≤ now ∧ now ≤ 10000000) (hb : 1 ≤ b ∧ b ≤ 1000000) (h0 : 0 ≤ v0 ∧ v0 ≤ 9000000000000) (h1 : 0 ≤ v1 ∧ v1 ≤ 1000000000) (hat : 0 ≤ at' ∧ at' ≤ 10000000) (hl : 1 ≤ l.length) (hd : d.length ≤ 1000) :
    L14_68_0 now s1 s2 s3 s4 s5 s6 s7 s8 s9 s10 s11 s12 s13 s14 s15 s16 s17 s18 s19 s20 s21 s22 p.1 p.2.1 p.2.2.1 p.2.2.2.1 p.2.2.2.2.1 p.2.2.2.2.2.1 p.2.2.2.2.2.2.1 p.2.2.2.2.2.2.2 at' d k a b c room v0 v1 v2 v3 v4 v5 v6 v7 seed now l y =
    some (cond ((hitS a b now v0 v1 (now - at')).1 && !p.2.2.2.2.2.2.1) (.inl (d ++ [p], (hitS a b now v0 v1 (now - at')).2.1, (hitS a b now v0 v1 (now - at')).2.2, l.length - 1))
      (.inr (true, 0, (hitS a b now v0 v1 (now - at')).2.1, (hitS a b now v0 v1 (now - at')).2.2, p.2.2.2.2.2.2.2 || (hitS a b now v0 v1 (now - at')).1, l.length - 1))) := by
  have w1 : IntKind.wrap IntKind.i64 (now - at') = now - at' := wrap_id (by omega) (by omega)
  have n1 : Int.toNat 1 = 1 := rfl
  unfold L14_68_0
  rw [n1, w1, v37_eq hn hb h0 h1, v36_eq p d hd, decide_eq_true hl, decide_eq_true (Nat.le_refl _)]
  unfold L14_100_0 L14_100_1
  simp only [cond_true, ok_some, val_some]
  cases (hitS a b now v0 v1 (now - at')).1 <;> cases p.2.2.2.2.2.2.1 <;> cases p.2.2.2.2.2.2.2 <;> rfl
def tkE (a b now : Int) : List QD → Int → Int → List PK → (Bool × Int × Int × Int × Int × Int × Int × Int × Int × Int × Bool × Bool × List PK × Nat × List QD) ⊕ (Int × Int × List QD × List PK)
  | [], v0, v1, d => .inr (v0, v1, [], d)
  | w :: r, v0, v1, d => cond ((hitS a b now v0 v1 (now - w.2)).1 && !w.1.2.2.2.2.2.2.1) (tkE a b now r (hitS a b now v0 v1 (now - w.2)).2.1 (hitS a b now v0 v1 (now - w.2)).2.2 (d ++ [w.1]))
      (.inl (true, 0, (hitS a b now v0 v1 (now - w.2)).2.1, (hitS a b now v0 v1 (now - w.2)).2.2, w.1.1, w.1.2.1, w.1.2.2.1, w.1.2.2.2.1, w.1.2.2.2.2.1, w.1.2.2.2.2.2.1, w.1.2.2.2.2.2.2.1, w.1.2.2.2.2.2.2.2 || (hitS a b now v0 v1 (now - w.2)).1, d, (w :: r).length - 1, w :: r))
theorem l14_0 (s1 s2 s3 s4 s5 s6 s7 s8 s9 s10 s11 s12 s13 s14 s15 s16 s17 s18 s19 s20 : Int) (s21 s22 : Bool) (k a b c room v2 v3 v4 v5 v6 v7 seed now : Int) (y : List (List QD)) (hn : 0 ≤ now ∧ now ≤ 10000000) (hb : 1 ≤ b ∧ b ≤ 1000000) :
    ∀ (l : List QD) (n : Nat) (v0 v1 m : Int) (d : List PK), l.length < n → (∀ w ∈ l, 0 ≤ w.2 ∧ w.2 ≤ 10000000) → (0 ≤ v0 ∧ v0 ≤ m) → 11000001 ≤ m → m + 1000000 * (l.length : Int) ≤ 9000000000000 → (0 ≤ v1 ∧ v1 ≤ 1000000000) → d.length + l.length ≤ 1000 →
    L14_0_1 n now s1 s2 s3 s4 s5 s6 s7 s8 s9 s10 s11 s12 s13 s14 s15 s16 s17 s18 s19 s20 s21 s22 d k a b c room v0 v1 v2 v3 v4 v5 v6 v7 seed now l y = some (tkE a b now l v0 v1 d)
  | [], n + 1, v0, v1, m, d, _, _, _, _, _, _, _ => by
    rw [qL14_0_1, decide_eq_false (show ¬ ((([] : List QD).length : Int) > 0) by simp)]
    rfl
  | w :: r, n + 1, v0, v1, m, d, hl, hw, h0, hm, hM, h1, hd => by
    have hlen : (w :: r).length = r.length + 1 := List.length_cons
    have hww := hw w (List.mem_cons_self ..)
    have hg : List.getD (w :: r) (Int.toNat 0) (PKz, (0 : Int)) = w := rfl
    have e := l14_68 s1 s2 s3 s4 s5 s6 s7 s8 s9 s10 s11 s12 s13 s14 s15 s16 s17 s18 s19 s20 s21 s22 w.1 w.2 d k a b c room v0 v1 v2 v3 v4 v5 v6 v7 seed now (w :: r) y hn hb (by omega) h1 hww (by omega) (by omega)
    have hbd := hitS_bd (a := a) (v0 := v0) (v1 := v1) (wait := now - w.2) hn hb h0 hm h1
    rw [qL14_0_1, decide_eq_true (show ((w :: r).length : Int) > 0 by omega), decide_eq_true (show Int.toNat 0 < (w :: r).length by rw [hlen]; exact Nat.succ_pos _), hg, e]
    unfold tkE
    cases hc : ((hitS a b now v0 v1 (now - w.2)).1 && !w.1.2.2.2.2.2.2.1) with
    | true =>
      simp only [cond_true, isL_inl, getL_inl]
      rw [show Nat.beq (1 + ((w :: r).length - 1)) (w :: r).length = true by rw [Nat.beq_eq]; omega]
      exact l14_0 s1 s2 s3 s4 s5 s6 s7 s8 s9 s10 s11 s12 s13 s14 s15 s16 s17 s18 s19 s20 s21 s22 k a b c room v2 v3 v4 v5 v6 v7 seed now y hn hb r n _ _ (m + 1000000) (d ++ [w.1]) (by omega) (fun x hx => hw x (List.mem_cons_of_mem _ hx)) hbd.1 (by omega) (by omega) hbd.2 (by rw [List.length_append, List.length_singleton]; omega)
    | false =>
      simp only [cond_true, cond_false, isL_inr, getR_inr, ok_some, val_some]
theorem tkE_len {a b now : Int} : ∀ {l : List QD} {v0 v1 : Int} {d : List PK} {r}, tkE a b now l v0 v1 d = .inl r → 1 + r.2.2.2.2.2.2.2.2.2.2.2.2.2.1 = r.2.2.2.2.2.2.2.2.2.2.2.2.2.2.length
  | [], v0, v1, d, r, h => by unfold tkE at h; cases h
  | w :: l, v0, v1, d, r, h => by
    unfold tkE at h
    cases hc : ((hitS a b now v0 v1 (now - w.2)).1 && !w.1.2.2.2.2.2.2.1) with
    | true => rw [hc] at h; exact tkE_len h
    | false =>
      rw [hc] at h
      cases h
      simp only [List.length_cons]
      omega
theorem lst_at {hi0 : Int} : ∀ {l : List QD} {last : Int}, 0 ≤ last → lst hi0 last l = true → ∀ w ∈ l, 0 ≤ w.2 ∧ w.2 ≤ hi0
  | [], _, _, _, w, hw => by cases hw
  | x :: r, last, h0, h, w, hw => by
    unfold lst at h
    cases hp : pkOk x.1 with
    | false => rw [hp] at h; cases h
    | true =>
      rw [hp] at h
      simp only [cond_true] at h
      by_cases c : last ≤ x.2 ∧ x.2 ≤ hi0
      · rw [decide_eq_true c] at h
        rcases List.mem_cons.1 hw with e | e
        · rw [e]; omega
        · exact lst_at (by omega) h w e
      · rw [decide_eq_false c] at h; cases h
theorem cond_dec {α : Type} {p : Prop} {inst : Decidable p} (h : p) (a b : α) : cond (@decide p inst) a b = a := by rw [decide_eq_true h]; rfl
theorem v14_ok (q : Qu) (now : Int) (hf : Len (first q)) (h : opn q now = 0) :
    (∃ r, tkE q.a q.b now (first q) q.v0 q.v1 [] = .inl r ∧ v14 q.k q.a q.b q.c q.room q.ls q.v0 q.v1 q.v2 q.v3 q.v4 q.v5 q.v6 q.v7 q.seed now =
      some (q.k, q.a, q.b, q.c, q.room, [List.take r.2.2.2.2.2.2.2.2.2.2.2.2.2.1 (List.drop 1 r.2.2.2.2.2.2.2.2.2.2.2.2.2.2)], r.2.2.1, r.2.2.2.1, q.v2, q.v3, q.v4, q.v5, q.v6, now, q.seed,
        r.2.2.2.2.1, r.2.2.2.2.2.1, r.2.2.2.2.2.2.1, r.2.2.2.2.2.2.2.1, r.2.2.2.2.2.2.2.2.1, r.2.2.2.2.2.2.2.2.2.1, r.2.2.2.2.2.2.2.2.2.2.1, r.2.2.2.2.2.2.2.2.2.2.2.1, r.1, r.2.2.2.2.2.2.2.2.2.2.2.2.1, r.2.1)) ∨
    (∃ r, tkE q.a q.b now (first q) q.v0 q.v1 [] = .inr r ∧ v14 q.k q.a q.b q.c q.room q.ls q.v0 q.v1 q.v2 q.v3 q.v4 q.v5 q.v6 q.v7 q.seed now =
      some (q.k, q.a, q.b, q.c, q.room, [r.2.2.1], 0, 0, q.v2, q.v3, q.v4, q.v5, q.v6, now, q.seed, 0, 0, 0, 0, 0, 0, false, false, false, r.2.2.2, 0)) := by
  have e := v32_eq q now hf
  rw [decide_eq_true h] at e
  obtain ⟨hv, hn0, hn1, hn7⟩ := opn_vd h
  have hvd := vd_iff.1 hv
  have hl := len_first hv
  have hb := hvd.b
  have h0 := hvd.v0
  have h1 := hvd.v1
  have h7 := hvd.v7
  have hat := lst_at (Int.le_refl 0) hvd.lst
  have hk := l14_0 0 0 0 0 0 0 0 0 0 0 0 0 0 0 0 0 0 0 0 0 false false q.k q.a q.b q.c q.room q.v2 q.v3 q.v4 q.v5 q.v6 now q.seed now [] ⟨hn0, hn1⟩ hb (first q) FU q.v0 q.v1 20000000 [] (by unfold FU; omega)
    (fun w hw => by have := hat w hw; omega) (by omega) (by omega) (by omega) h1 (by simp only [List.length_nil]; omega)
  unfold v14
  rw [e]
  simp only [cond_true, isL_inr, getR_inr, ok_some, val_some, cond_false]
  rw [show (((0 : Int) != (0 : Int)) = false) from rfl]
  simp only [cond_false]
  unfold L14_36_1
  simp only [hk]
  cases ht : tkE q.a q.b now (first q) q.v0 q.v1 [] with
  | inl r =>
    left
    have hlen := tkE_len ht
    refine ⟨r, rfl, ?_⟩
    simp only [cond_true, isL_inl, getL_inl]
    exact (cond_dec (show 1 + r.2.2.2.2.2.2.2.2.2.2.2.2.2.1 ≤ r.2.2.2.2.2.2.2.2.2.2.2.2.2.2.length by omega) _ _).trans rfl
  | inr r =>
    right
    refine ⟨r, rfl, ?_⟩
    simp only [cond_true, cond_false, isL_inr, getR_inr, ok_some, val_some]
    rfl
theorem tkE_was {a b now : Int} : ∀ {l : List QD} {v0 v1 : Int} {d : List PK} {r}, tkE a b now l v0 v1 d = .inl r → r.1 = true ∧ r.2.1 = 0 ∧
    (r.2.2.2.2.2.2.2.2.2.2.1 = false → r.2.2.2.2.2.2.2.2.2.2.2.1 = true → ∃ w, w ∈ l ∧ w.1 = (r.2.2.2.2.1, r.2.2.2.2.2.1, r.2.2.2.2.2.2.1, r.2.2.2.2.2.2.2.1, r.2.2.2.2.2.2.2.2.1, r.2.2.2.2.2.2.2.2.2.1, r.2.2.2.2.2.2.2.2.2.2.1, r.2.2.2.2.2.2.2.2.2.2.2.1))
  | [], v0, v1, d, r, h => by unfold tkE at h; cases h
  | w :: l, v0, v1, d, r, h => by
    unfold tkE at h
    cases hc : ((hitS a b now v0 v1 (now - w.2)).1 && !w.1.2.2.2.2.2.2.1) with
    | true =>
      rw [hc] at h
      obtain ⟨h1, h2, h3⟩ := tkE_was h
      exact ⟨h1, h2, fun ha hm => by
        obtain ⟨x, hx, e⟩ := h3 ha hm
        exact ⟨x, List.mem_cons_of_mem _ hx, e⟩⟩
    | false =>
      rw [hc] at h
      cases h
      refine ⟨rfl, rfl, fun ha hm => ⟨w, List.mem_cons_self .., ?_⟩⟩
      have ha' : w.1.2.2.2.2.2.2.1 = false := ha
      rw [ha'] at hc
      have hh : (hitS a b now v0 v1 (now - w.2)).1 = false := by simpa using hc
      show w.1 = (w.1.1, w.1.2.1, w.1.2.2.1, w.1.2.2.2.1, w.1.2.2.2.2.1, w.1.2.2.2.2.2.1, w.1.2.2.2.2.2.2.1, w.1.2.2.2.2.2.2.2 || (hitS a b now v0 v1 (now - w.2)).1)
      rw [hh, Bool.or_false]
theorem tkE_short {a b now v0 v1 : Int} {w : QD} {l : List QD} {d : List PK} (h : now - w.2 < a) : tkE a b now (w :: l) v0 v1 d =
    .inl (true, 0, 0, 0, w.1.1, w.1.2.1, w.1.2.2.1, w.1.2.2.2.1, w.1.2.2.2.2.1, w.1.2.2.2.2.2.1, w.1.2.2.2.2.2.2.1, w.1.2.2.2.2.2.2.2, d, (w :: l).length - 1, w :: l) := by
  unfold tkE hitS
  rw [decide_eq_true h]
  simp only [cond_true, Bool.false_and, cond_false, Bool.or_false]
theorem hit_up {a b now v0 v1 wait V : Int} (hV : 0 ≤ V) (h : V < v0) : ((hitS a b now v0 v1 wait).2.1 = 0 ∨ V < (hitS a b now v0 v1 wait).2.1) ∧ ((hitS a b now v0 v1 wait).1 = true → V < (hitS a b now v0 v1 wait).2.1) := by
  unfold hitS
  by_cases c1 : wait < a
  · rw [decide_eq_true c1]; simp
  rw [decide_eq_false c1, decide_eq_false (show ¬ v0 = 0 by omega)]
  by_cases c3 : now ≥ v0 - 1
  · rw [decide_eq_true c3]; simp only [cond_true, cond_false]
    refine ⟨.inr ?_, fun _ => ?_⟩ <;> omega
  · rw [decide_eq_false c3]; simp only [cond_false]
    exact ⟨.inr h, fun h => by cases h⟩
theorem tkE_more {a b now V : Int} (hV : 0 ≤ V) : ∀ {l : List QD} {v0 v1 : Int} {d : List PK}, V < v0 →
    (∀ r, tkE a b now l v0 v1 d = .inl r → (r.2.2.1 = 0 ∨ V < r.2.2.1) ∧ ∃ e, r.2.2.2.2.2.2.2.2.2.2.2.2.1 = d ++ e) ∧ (∀ r, tkE a b now l v0 v1 d = .inr r → ∃ e, r.2.2.2 = d ++ e)
  | [], v0, v1, d, h => ⟨fun r hr => (by unfold tkE at hr; cases hr), fun r hr => (by unfold tkE at hr; cases hr; exact ⟨[], by simp⟩)⟩
  | w :: l, v0, v1, d, h => by
    have hu := hit_up (a := a) (b := b) (now := now) (v1 := v1) (wait := now - w.2) hV h
    cases hc : ((hitS a b now v0 v1 (now - w.2)).1 && !w.1.2.2.2.2.2.2.1) with
    | true =>
      have hh : (hitS a b now v0 v1 (now - w.2)).1 = true := by
        cases hx : (hitS a b now v0 v1 (now - w.2)).1 with
        | true => rfl
        | false => rw [hx] at hc; cases hc
      have ih := tkE_more (a := a) (b := b) (now := now) hV (l := l) (v1 := (hitS a b now v0 v1 (now - w.2)).2.2) (d := d ++ [w.1]) (hu.2 hh)
      refine ⟨fun r hr => ?_, fun r hr => ?_⟩
      · unfold tkE at hr
        rw [hc] at hr
        obtain ⟨i1, e, i2⟩ := ih.1 r hr
        exact ⟨i1, [w.1] ++ e, by rw [i2, List.append_assoc]⟩
      · unfold tkE at hr
        rw [hc] at hr
        obtain ⟨e, i2⟩ := ih.2 r hr
        exact ⟨[w.1] ++ e, by rw [i2, List.append_assoc]⟩
    | false =>
      refine ⟨fun r hr => ?_, fun r hr => ?_⟩
      · unfold tkE at hr
        rw [hc] at hr
        cases hr
        exact ⟨hu.1, [], by simp⟩
      · unfold tkE at hr
        rw [hc] at hr
        cases hr
theorem l8_44 (q : Qu) (now : Int) (w : QD) (l : List QD) (hf : Len (first q)) (hv : Vd q) (hw : first q = w :: l) (ho : opn q now = 0) (hwt : now - w.2 ≥ q.a) :
    L8_44_0 now true q.k q.a q.b q.c q.room q.ls q.v0 q.v1 q.v2 q.v3 q.v4 q.v5 q.v6 q.v7 q.seed w.1.1 w.1.2.1 w.1.2.2.1 w.1.2.2.2.1 w.1.2.2.2.2.1 w.1.2.2.2.2.2.1 w.1.2.2.2.2.2.2.1 w.1.2.2.2.2.2.2.2 = some true := by
  obtain ⟨_, hn0, hn1, hn7⟩ := opn_vd ho
  have h0 := hv.v0
  have hb := hv.b
  have h7 := hv.v7
  have w1 : IntKind.wrap IntKind.i64 (now + q.b) = now + q.b := wrap_id (by omega) (by omega)
  have w2 : IntKind.wrap IntKind.i64 (now + q.b + 1) = now + q.b + 1 := wrap_id (by omega) (by omega)
  have w3 : IntKind.wrap IntKind.i64 (q.v0 - 1) = q.v0 - 1 := wrap_id (by omega) (by omega)
  have nw : ¬ now - w.2 < q.a := by omega
  unfold L8_44_0
  rcases v14_ok q now hf ho with ⟨r, hr, e⟩ | ⟨r, hr, e⟩
  · rw [e]
    obtain ⟨t1, t2, _⟩ := tkE_was hr
    simp only [ok_some, val_some, cond_true, t1, t2]
    unfold L8_68_0 L8_100_0 L8_108_0
    simp only [w1, w2, w3]
    rw [hw] at hr
    by_cases c1 : q.v0 = 0
    · have hh : hitS q.a q.b now q.v0 q.v1 (now - w.2) = (false, now + q.b + 1, q.v1) := by
        unfold hitS; rw [decide_eq_false nw, decide_eq_true c1]; rfl
      unfold tkE at hr
      rw [hh] at hr
      cases hr
      rw [c1]
      by_cases z : (0 : Int) = now + q.b + 1
      · omega
      · simp
    · have c1' : (q.v0 == (0 : Int)) = false := by simpa using c1
      by_cases c2 : now < q.v0 - 1
      · have hh : hitS q.a q.b now q.v0 q.v1 (now - w.2) = (false, q.v0, q.v1) := by
          unfold hitS; rw [decide_eq_false nw, decide_eq_false c1, decide_eq_false (show ¬ now ≥ q.v0 - 1 by omega)]; rfl
        unfold tkE at hr
        rw [hh] at hr
        cases hr
        rw [c1', decide_eq_true c2]
        simp
      · have hh1 : (hitS q.a q.b now q.v0 q.v1 (now - w.2)).1 = true := by
          unfold hitS; rw [decide_eq_false nw, decide_eq_false c1, decide_eq_true (show now ≥ q.v0 - 1 by omega)]; rfl
        have hh2 : q.v0 < (hitS q.a q.b now q.v0 q.v1 (now - w.2)).2.1 := by
          unfold hitS; rw [decide_eq_false nw, decide_eq_false c1, decide_eq_true (show now ≥ q.v0 - 1 by omega)]; simp only [cond_true, cond_false]; omega
        rw [c1', decide_eq_false c2]
        unfold tkE at hr
        rw [hh1] at hr
        cases ha : w.1.2.2.2.2.2.2.1 with
        | true =>
          rw [ha] at hr
          cases hr
          simp [hh2]
        | false =>
          rw [ha] at hr
          obtain ⟨m1, e2, m2⟩ := (tkE_more (by omega) hh2).1 r hr
          rw [m2]
          have hl : (1 : Int) ≤ (e2.length : Int) + 1 := by omega
          rcases m1 with m1 | m1
          · rw [m1]
            simp [ha, hl]
          · have z : ¬ r.2.2.1 = 0 := by omega
            simp [ha, m1, z, hl]
  · rw [e]
    simp only [ok_some, val_some, cond_true]
    unfold L8_68_0 L8_100_0 L8_108_0
    simp only [w1, w2, w3]
    rw [hw] at hr
    by_cases c1 : q.v0 = 0
    · have hh : hitS q.a q.b now q.v0 q.v1 (now - w.2) = (false, now + q.b + 1, q.v1) := by
        unfold hitS; rw [decide_eq_false nw, decide_eq_true c1]; rfl
      unfold tkE at hr
      rw [hh] at hr
      cases hr
    · have c1' : (q.v0 == (0 : Int)) = false := by simpa using c1
      by_cases c2 : now < q.v0 - 1
      · have hh : hitS q.a q.b now q.v0 q.v1 (now - w.2) = (false, q.v0, q.v1) := by
          unfold hitS; rw [decide_eq_false nw, decide_eq_false c1, decide_eq_false (show ¬ now ≥ q.v0 - 1 by omega)]; rfl
        unfold tkE at hr
        rw [hh] at hr
        cases hr
      · have hh1 : (hitS q.a q.b now q.v0 q.v1 (now - w.2)).1 = true := by
          unfold hitS; rw [decide_eq_false nw, decide_eq_false c1, decide_eq_true (show now ≥ q.v0 - 1 by omega)]; rfl
        have hh2 : q.v0 < (hitS q.a q.b now q.v0 q.v1 (now - w.2)).2.1 := by
          unfold hitS; rw [decide_eq_false nw, decide_eq_false c1, decide_eq_true (show now ≥ q.v0 - 1 by omega)]; simp only [cond_true, cond_false]; omega
        rw [c1', decide_eq_false c2]
        unfold tkE at hr
        rw [hh1] at hr
        cases ha : w.1.2.2.2.2.2.2.1 with
        | true => rw [ha] at hr; cases hr
        | false =>
          rw [ha] at hr
          obtain ⟨e2, m2⟩ := (tkE_more (by omega) hh2).2 r hr
          rw [m2]
          have hl : (1 : Int) ≤ (e2.length : Int) + 1 := by omega
          simp [ha, hl]
theorem v8_true (q : Qu) (now : Int) (hls : Len q.ls) : v8 q.k q.a q.b q.c q.room q.ls q.v0 q.v1 q.v2 q.v3 q.v4 q.v5 q.v6 q.v7 q.seed now = some true := by
  unfold v8
  obtain ⟨x, hx, hxl⟩ := v11_eq q hls
  rw [hx]
  cases x with
  | false => rfl
  | true =>
    have hf := hxl rfl
    obtain ⟨y, hy, hyv⟩ := v19_vd q hf
    rw [hy, v26_eq]
    simp only [ok_some, val_some, cond_true, cond_nb]
    cases y with
    | false => rfl
    | true =>
      have hv := hyv rfl
      have h1 := hv.one
      have ef : q.ls.getD (Int.toNat (0 : Int)) [] = first q := rfl
      rw [ef, decide_eq_true (show (0 : Int) < (q.ls.length : Int) by omega)]
      cases hw : first q with
      | nil => rfl
      | cons w l =>
        have hg : List.getD (w :: l) (Int.toNat 0) DQ = w := rfl
        simp only [cond_true]
        rw [show ((((w :: l : List QD).length : Int)) == (0 : Int)) = false by simp <;> omega, decide_eq_true (show (0 : Int) < ((w :: l : List QD).length : Int) by simp <;> omega), hg]
        simp only [cond_true, cond_false]
        by_cases hn : 0 ≤ now ∧ now ≤ 10000000
        case neg => rw [decide_eq_false hn]; rfl
        rw [decide_eq_true hn]
        simp only [cond_true]
        by_cases h7 : now < q.v7
        case pos => rw [decide_eq_true h7]; rfl
        rw [decide_eq_false h7]
        simp only [cond_false]
        have hat := lst_at (Int.le_refl 0) hv.lst w (by rw [hw]; exact List.mem_cons_self ..)
        have hv7 := hv.v7
        have ww : IntKind.wrap IntKind.i64 (now - w.2) = now - w.2 := wrap_id (by omega) (by omega)
        rw [ww]
        by_cases hwt : now - w.2 < q.a
        case pos => rw [decide_eq_true hwt]; rfl
        rw [decide_eq_false hwt]
        have ho : opn q now = 0 := by
          unfold opn
          rw [vd_iff.2 hv, decide_eq_true hn, decide_eq_false h7]; rfl
        have hL := l8_44 q now w l hf hv hw ho (by omega)
        unfold v10
        simp only [cond_false, val_some]
        rw [hL]
        rfl
end Go.Proofs.Ythbinbcgjhnijaa
set_option maxRecDepth 100000
namespace Go.Proofs.Ythbinbcgjhnijaa
open Go Go.ChangeShapes Go.WideShapes Go.ChangeAt Go.RowKit Go.AM Go.TM
theorem own0 : ownKnob Try.prog.godebug = none := by kernel_rfl
theorem laid0 : laidOutB Try.prog = true := by kernel_rfl
abbrev taus : List Ty := [.pair (.pair (.int .i64) (.pair (.int .i64) (.pair (.int .i64) (.int .i64)))) (.pair (.int .i64) (.pair (.list 51 (.list 55 QDy)) (.pair (.pair (.int .i64) (.pair (.int .i64) (.pair (.int .i64) (.pair (.int .i64) (.pair (.int .i64) (.pair (.int .i64) (.pair (.int .i64) (.int .i64)))))))) (.int .u64)))), .int .i64]
theorem args0 (x : (((Int × (Int × (Int × Int))) × (Int × ((List (List (PKt × Int))) × ((Int × (Int × (Int × (Int × (Int × (Int × (Int × Int))))))) × Int))))) × (Int) × Unit) : argsOf Try.prog Try.f8.params.toList taus x = [.agg [.int .i64 x.1.1.1, .int .i64 x.1.1.2.1, .int .i64 x.1.1.2.2.1, .int .i64 x.1.1.2.2.2, .int .i64 x.1.2.1, .d 51 (.list 55 QDy) x.1.2.2.1, .int .i64 x.1.2.2.2.1.1, .int .i64 x.1.2.2.2.1.2.1, .int .i64 x.1.2.2.2.1.2.2.1, .int .i64 x.1.2.2.2.1.2.2.2.1, .int .i64 x.1.2.2.2.1.2.2.2.2.1, .int .i64 x.1.2.2.2.1.2.2.2.2.2.1, .int .i64 x.1.2.2.2.1.2.2.2.2.2.2.1, .int .i64 x.1.2.2.2.1.2.2.2.2.2.2.2, .int .u64 x.1.2.2.2.2], .sc (.int .i64 x.2.1)] := by
  kernel_rfl
theorem law_v (x : (((Int × (Int × (Int × Int))) × (Int × ((List (List (PKt × Int))) × ((Int × (Int × (Int × (Int × (Int × (Int × (Int × Int))))))) × Int))))) × (Int) × Unit) (hx : InTup taus x) : v8 x.1.1.1 x.1.1.2.1 x.1.1.2.2.1 x.1.1.2.2.2 x.1.2.1 x.1.2.2.1 x.1.2.2.2.1.1 x.1.2.2.2.1.2.1 x.1.2.2.2.1.2.2.1 x.1.2.2.2.1.2.2.2.1 x.1.2.2.2.1.2.2.2.2.1 x.1.2.2.2.1.2.2.2.2.2.1 x.1.2.2.2.1.2.2.2.2.2.2.1 x.1.2.2.2.1.2.2.2.2.2.2.2 x.1.2.2.2.2 x.2.1 = some true := by
  have h : Len (show List (List QD) from x.1.2.2.1) := (hx.1).2.2.1.1
  exact v8_true ⟨x.1.1.1, x.1.1.2.1, x.1.1.2.2.1, x.1.1.2.2.2, x.1.2.1, x.1.2.2.1, x.1.2.2.2.1.1, x.1.2.2.2.1.2.1, x.1.2.2.2.1.2.2.1, x.1.2.2.2.1.2.2.2.1, x.1.2.2.2.1.2.2.2.2.1, x.1.2.2.2.1.2.2.2.2.2.1, x.1.2.2.2.1.2.2.2.2.2.2.1, x.1.2.2.2.1.2.2.2.2.2.2.2, x.1.2.2.2.2⟩ x.2.1 h
theorem law_run : ∀ x : Tup taus, InTup taus x → ∃ k H', TM.evF Try.prog (mkTn base o45 t45) dOk k 8 (argsOf Try.prog Try.f8.params.toList taus x) [] = some ([.sc (.bool true)], H') := by
  intro x hx
  have e := args0 x
  rw [e]
  refine ⟨41, [], ?_⟩
  rw [fn_eq (by kernel_rfl), ev8, law_v x hx]
  rfl
theorem law_lifted (os : Os) (started : os.Started) (H : Type) (enc : TypeId × Value → H) :
    ReturnsInHanded {} Try.checked os 8 .any (Rows.sojournPressureSpec.pre6 enc Try.prog Try.f8 Rows.sojournPressureRow.domain false) (Rows.sojournPressureSpec.post enc Try.prog Try.f8 false true false false) :=
  law_tm (C := Try.checked) (τs := taus) (tb := 4) (base := base) (O := o45) (T := t45) own0 started (by kernel_rfl) Try.func8
    (ChangeSpec.witness6 (enc := enc) (C := Try.checked) false ⟨#[], #[.agg #[.int .i64 0, .int .i64 0, .int .i64 0, .int .i64 0, .int .i64 0, .slice none 0 0, .int .i64 0, .int .i64 0, .int .i64 0, .int .i64 0, .int .i64 0, .int .i64 0, .int .i64 0, .int .i64 0, .int .u64 0], .int .i64 0], []⟩ 8 (by kernel_rfl) (by kernel_rfl) (by kernel_rfl) (by kernel_rfl))
    laid0 (by kernel_rfl) (by kernel_rfl) rfl (by kernel_rfl) names mixed ok45 (by kernel_rfl) (by kernel_rfl)
    (fun ds h => by
      match ds, h with
      | [_, _], _ => rfl)
    law_run
theorem sojournPressure_holds : Rows.SojournPressureSaid :=
  OpenClaim.holds_of_wide 8 Try.f8 rfl rfl rfl rfl rfl rfl rfl ⟨rfl, rfl, rfl, rfl, rfl⟩ rfl rfl rfl rfl rfl (by kernel_rfl) Try.func8 (by kernel_rfl)
    (of_decide_eq_true (by kernel_rfl)) (by unfold Func.isWrapper; first | (rw [if_pos (by decide +kernel)]; kernel_rfl) | (rw [if_neg (by decide +kernel)]; exact ⟨rfl, rfl⟩))
    (fun os started H enc _ => law_lifted os started H enc)
end Go.Proofs.Ythbinbcgjhnijaa
