/- SojournPatience: it returns true at every input; no conditions. -/
import Derived.Test.YthbinbcgjhnijaaG5
import Derived.Test.YthbinbcgjhnijaaRows
import Derived.ProofKit
set_option linter.all false
set_option linter.constructorNameAsVariable false
set_option linter.unnecessarySimpa false
set_option linter.unusedSimpArgs false
set_option linter.unusedVariables false
set_option linter.unusedVariables false
namespace Go.Proofs.Ythbinbcgjhnijaa
open Go Go.AM Go.TM Go.Proofs
@[simp] theorem ok_some {α : Type} (x : α) : ok (some x) = true := rfl
@[simp] theorem val_some {α : Type} [Inhabited α] (x : α) : val (some x) = x := rfl
@[simp] theorem isL_inl {α β : Type} (x : α) : isL (some (.inl x : α ⊕ β)) = true := rfl
@[simp] theorem isL_inr {α β : Type} (x : β) : isL (some (.inr x : α ⊕ β)) = false := rfl
@[simp] theorem getL_inl {α β : Type} [Inhabited α] (x : α) : getL (some (.inl x : α ⊕ β)) = x := rfl
@[simp] theorem getR_inr {α β : Type} (x : β) : getR (some (.inr x : α ⊕ β)) = some x := rfl
theorem cond_nb {α : Type} (b : Bool) (x y : α) : cond (!b) x y = cond b y x := by cases b <;> rfl
theorem wrap_id {x : Int} (h1 : -9223372036854775808 ≤ x) (h2 : x ≤ 9223372036854775807) : IntKind.wrap IntKind.i64 x = x := by
  simp [IntKind.wrap, IntKind.bits, IntKind.signed]
  omega
theorem up1 {i : Nat} (h : i < 9223372036854775807) : IntKind.wrap IntKind.i64 ((i : Int) + 1) = ((i + 1 : Nat) : Int) := by rw [wrap_id (by omega) (by omega)]; omega
theorem getD_drop {α : Type} {l : List α} {i : Nat} (h : i < l.length) (d : α) : l.drop i = l.getD i d :: l.drop (i + 1) := by
  rw [List.drop_eq_getElem_cons h]
  congr 1
  simp [List.getD, List.getElem?_eq_getElem h]
abbrev Len {α : Type} (l : List α) : Prop := l.length ≤ 9223372036854775807
theorem and_cond (p q : Prop) [Decidable p] [Decidable q] : cond (decide p) (some (decide q)) (some false) = some (decide (p ∧ q)) := by
  by_cases h : p <;> simp [h]
theorem nand_cond (p q : Prop) [Decidable p] [Decidable q] : cond (decide p) (some false) (some (decide q)) = some (decide (¬ p ∧ q)) := by
  by_cases h : p <;> simp [h]
theorem bne_dec (x y : Int) : (x != y) = !decide (x = y) := rfl
theorem beq_dec (x y : Int) : (x == y) = decide (x = y) := rfl
abbrev PK := Int × Int × Int × Int × Int × Int × Bool × Bool
abbrev QD := PK × Int
def pkOk (p : PK) : Bool := decide ((0 ≤ p.1 ∧ p.1 ≤ 7) ∧ (0 ≤ p.2.1 ∧ p.2.1 ≤ 3) ∧ (0 ≤ p.2.2.1 ∧ p.2.2.1 ≤ 1000000000) ∧ (0 ≤ p.2.2.2.1 ∧ p.2.2.2.1 ≤ 1000000000) ∧ (1 ≤ p.2.2.2.2.1 ∧ p.2.2.2.2.1 ≤ 10000) ∧ (0 ≤ p.2.2.2.2.2.1 ∧ p.2.2.2.2.2.1 ≤ 10000000))
theorem v39_eq (a b c : Int) : v39 a b c = some (decide (b ≤ a ∧ a ≤ c)) := by
  unfold v39; rw [and_cond]
theorem v40_eq (a : Int) : v40 a = some (decide (0 ≤ a ∧ a ≤ 10000000)) := by
  unfold v40; simp only [v39_eq, ok_some, val_some, cond_true]
theorem v31_eq (p : PK) : v31 p.1 p.2.1 p.2.2.1 p.2.2.2.1 p.2.2.2.2.1 p.2.2.2.2.2.1 p.2.2.2.2.2.2.1 p.2.2.2.2.2.2.2 = some (pkOk p) := by
  unfold v31 pkOk
  simp only [v39_eq, v40_eq, ok_some, val_some, cond_true, and_cond]
theorem l45 (l : List Int) (hl : Len l) : ∀ (k n i : Nat), i + k = l.length → k < n →
    (∃ j : Nat, L45_0_0 n l (l.length : Int) (i : Int) = some (.inl (j : Int)) ∧ (l.drop i).any (· != 0) = true) ∨ (L45_0_0 n l (l.length : Int) (i : Int) = some (.inr ()) ∧ (l.drop i).any (· != 0) = false) := by
  intro k
  induction k with
  | zero =>
    intro n i h1 h2
    cases n with
    | zero => omega
    | succ n =>
      rw [qL45_0_0, decide_eq_false (show ¬ ((i : Int) < (l.length : Int)) by omega), List.drop_of_length_le (show l.length ≤ i by omega)]
      exact .inr ⟨rfl, rfl⟩
  | succ k ih =>
    intro n i h1 h2
    cases n with
    | zero => omega
    | succ n =>
      have hi : i < l.length := by omega
      rw [qL45_0_0, decide_eq_true (show (i : Int) < (l.length : Int) by omega), decide_eq_true (show (0 : Int) ≤ (i : Int) by omega), up1 (by have : l.length ≤ 9223372036854775807 := hl; omega)]
      simp only [cond_true, Int.toNat_natCast, v42, val_some]
      rw [getD_drop hi 0]
      cases hb : (l.getD i 0 != 0) with
      | true => exact .inl ⟨i, rfl, by simp only [List.any_cons, hb, Bool.true_or]⟩
      | false =>
        simp only [cond_false, List.any_cons, hb, Bool.false_or]
        exact ih n (i + 1) (by omega) (by omega)
theorem v41_eq (l : List Int) (hl : Len l) : v41 l = some (l.any (· != 0)) := by
  unfold v41 v45
  rcases l45 l hl l.length FU 0 (by omega) (by have : l.length ≤ 9223372036854775807 := hl; unfold FU; omega) with ⟨j, h, hx⟩ | ⟨h, hx⟩
  · simp only [Int.natCast_zero, List.drop_zero] at h hx
    rw [h, hx]
    simp
  · simp only [Int.natCast_zero, List.drop_zero] at h hx
    rw [h, hx]
    simp
def lst (hi : Int) : Int → List QD → Bool
  | _, [] => true
  | last, w :: r => cond (pkOk w.1) (cond (decide (last ≤ w.2 ∧ w.2 ≤ hi)) (lst hi w.2 r) false) false
theorem l18 (l : List QD) (hl : Len l) (x4 x5 x6 x7 x8 x9 x10 hi0 : Int) : ∀ (k n i : Nat) (last : Int), i + k = l.length → k < n →
    L18_0_0 n last l (l.length : Int) (i : Int) x4 x5 x6 x7 x8 x9 x10 hi0 = some (cond (lst hi0 last (l.drop i)) (.inr ()) (.inl false)) := by
  intro k
  induction k with
  | zero =>
    intro n i last h1 h2
    cases n with
    | zero => omega
    | succ n =>
      rw [qL18_0_0, decide_eq_false (show ¬ ((i : Int) < (l.length : Int)) by omega), List.drop_of_length_le (show l.length ≤ i by omega)]
      rfl
  | succ k ih =>
    intro n i last h1 h2
    cases n with
    | zero => omega
    | succ n =>
      have hi : i < l.length := by omega
      rw [qL18_0_0, decide_eq_true (show (i : Int) < (l.length : Int) by omega), decide_eq_true (show (0 : Int) ≤ (i : Int) by omega), up1 (by have : l.length ≤ 9223372036854775807 := hl; omega)]
      simp only [cond_true, Int.toNat_natCast, v31_eq, v39_eq, ok_some, val_some, cond_nb]
      rw [getD_drop hi (PKz, (0 : Int)), lst, ih n (i + 1) _ (by omega) (by omega)]
      cases pkOk (l.getD i (PKz, (0 : Int))).1 with
      | false => rfl
      | true =>
        simp only [cond_true]
        cases decide (last ≤ (l.getD i (PKz, (0 : Int))).2 ∧ (l.getD i (PKz, (0 : Int))).2 ≤ hi0) <;> rfl
structure Qu where
  k : Int
  a : Int
  b : Int
  c : Int
  room : Int
  ls : List (List QD)
  v0 : Int
  v1 : Int
  v2 : Int
  v3 : Int
  v4 : Int
  v5 : Int
  v6 : Int
  v7 : Int
  seed : Int
def first (q : Qu) : List QD := q.ls.getD 0 []
structure Vd (q : Qu) : Prop where
  k : q.k = 3
  a : 0 ≤ q.a ∧ q.a ≤ 1000000
  b : 1 ≤ q.b ∧ q.b ≤ 1000000
  c : q.c = 0
  room : 1 ≤ q.room ∧ q.room ≤ 500
  one : q.ls.length = 1
  seed : q.seed = 0
  v7 : 0 ≤ q.v7 ∧ q.v7 ≤ 10000000
  v0 : 0 ≤ q.v0 ∧ q.v0 ≤ q.v7 + q.b + 1
  v1 : 0 ≤ q.v1 ∧ q.v1 ≤ 1000000000
  v01 : q.v0 = 0 → q.v1 = 0
  len : ((first q).length : Int) ≤ q.room
  v2 : q.v2 = 0
  v3 : q.v3 = 0
  v4 : q.v4 = 0
  v5 : q.v5 = 0
  v6 : q.v6 = 0
  lst : lst q.v7 0 (first q) = true
def vd (q : Qu) : Bool := decide (q.k = 3 ∧ (0 ≤ q.a ∧ q.a ≤ 1000000) ∧ (1 ≤ q.b ∧ q.b ≤ 1000000) ∧ q.c = 0 ∧ (1 ≤ q.room ∧ q.room ≤ 500) ∧ q.ls.length = 1 ∧ q.seed = 0 ∧ (0 ≤ q.v7 ∧ q.v7 ≤ 10000000) ∧
  (0 ≤ q.v0 ∧ q.v0 ≤ q.v7 + q.b + 1) ∧ (0 ≤ q.v1 ∧ q.v1 ≤ 1000000000) ∧ (q.v0 = 0 → q.v1 = 0) ∧ ((first q).length : Int) ≤ q.room ∧ (q.v2 = 0 ∧ q.v3 = 0 ∧ q.v4 = 0 ∧ q.v5 = 0 ∧ q.v6 = 0) ∧ lst q.v7 0 (first q) = true)
theorem vd_iff {q : Qu} : vd q = true ↔ Vd q := by
  unfold vd
  rw [decide_eq_true_iff]
  constructor
  · rintro ⟨h1, h2, h3, h4, h5, h6, h7, h8, h9, h10, h11, h12, ⟨h13, h14, h15, h16, h17⟩, h18⟩
    exact ⟨h1, h2, h3, h4, h5, h6, h7, h8, h9, h10, h11, h12, h13, h14, h15, h16, h17, h18⟩
  · rintro ⟨h1, h2, h3, h4, h5, h6, h7, h8, h9, h10, h11, h12, h13, h14, h15, h16, h17, h18⟩
    exact ⟨h1, h2, h3, h4, h5, h6, h7, h8, h9, h10, h11, h12, ⟨h13, h14, h15, h16, h17⟩, h18⟩
theorem L18_68_eq (q : Qu) (hf : Len (first q)) (h1 : q.ls.length = 1) (y0 y1 y2 y3 y4 y5 y6 y7 : Int) : L18_68_0 q.k q.a q.b q.c q.room q.ls q.v0 q.v1 q.v2 q.v3 q.v4 q.v5 q.v6 q.v7 q.seed y0 y1 y2 y3 y4 y5 y6 y7 = some (lst y7 0 (first q)) := by
  unfold L18_68_0
  rw [decide_eq_true (show (0 : Int) < (q.ls.length : Int) by omega)]
  have h := l18 (first q) hf y0 y1 y2 y3 y4 y5 y6 y7 (first q).length FU 0 0 (by omega) (by have : (first q).length ≤ 9223372036854775807 := hf; unfold FU; omega)
  simp only [Int.natCast_zero, List.drop_zero] at h
  have e : q.ls.getD (Int.toNat (0 : Int)) [] = first q := rfl
  rw [e, h]
  cases lst y7 0 (first q) <;> rfl
theorem v18_eq (q : Qu) (hf : Len (first q)) : v18 q.k q.a q.b q.c q.room q.ls q.v0 q.v1 q.v2 q.v3 q.v4 q.v5 q.v6 q.v7 q.seed = some (vd q) := by
  cases h : vd q with
  | true =>
    have hv := vd_iff.1 h
    obtain ⟨h1, h2, h3, h4, h5, h6, h7, h8, h9, h10, h11, h12, h13, h14, h15, h16, h17, h18⟩ := hv
    unfold v18 L18_36_0 L18_52_0
    have e : q.ls.getD (Int.toNat (0 : Int)) [] = first q := rfl
    have w1 : IntKind.wrap IntKind.i64 (q.v7 + q.b) = q.v7 + q.b := wrap_id (by omega) (by omega)
    have w2 : IntKind.wrap IntKind.i64 (q.v7 + q.b + 1) = q.v7 + q.b + 1 := wrap_id (by omega) (by omega)
    have e5 : v41 [q.v2, q.v3, q.v4, q.v5, q.v6] = some false := by
      rw [v41_eq _ (by simp)]; simp [h13, h14, h15, h16, h17]
    simp only [v39_eq, v40_eq, w1, w2, ok_some, val_some, cond_true, cond_nb, e5, e, L18_68_eq q hf h6, h18]
    rw [h1, h4, h6, h7]
    rw [decide_eq_true h2, decide_eq_true h3, decide_eq_true h5, decide_eq_true h8, decide_eq_true h9, decide_eq_true h10]
    rw [decide_eq_false (show ¬ (((first q).length : Int) > q.room) by omega)]
    by_cases z : q.v0 = 0
    · rw [z, h11 z]; rfl
    · have : (q.v0 == (0 : Int)) = false := by simpa using z
      rw [this]; rfl
  | false =>
    have hv : ¬ Vd q := fun hv => by rw [vd_iff.2 hv] at h; cases h
    unfold v18
    simp only [v39_eq, ok_some, val_some, cond_true, cond_nb]
    by_cases h1 : q.k = 3
    case neg => have : (q.k != (3 : Int)) = true := by simpa using h1
                rw [this]; rfl
    by_cases h2 : 0 ≤ q.a ∧ q.a ≤ 1000000
    case neg => rw [decide_eq_false h2, h1]; rfl
    by_cases h3 : 1 ≤ q.b ∧ q.b ≤ 1000000
    case neg => rw [decide_eq_true h2, decide_eq_false h3, h1]; rfl
    by_cases h4 : q.c = 0
    case neg => have : (q.c != (0 : Int)) = true := by simpa using h4
                rw [decide_eq_true h2, decide_eq_true h3, h1, this]; rfl
    by_cases h5 : 1 ≤ q.room ∧ q.room ≤ 500
    case neg => rw [decide_eq_true h2, decide_eq_true h3, h1, h4, decide_eq_false h5]; rfl
    by_cases h6 : q.ls.length = 1
    case neg => have : ((q.ls.length : Int) != (1 : Int)) = true := by simp; omega
                rw [decide_eq_true h2, decide_eq_true h3, h1, h4, decide_eq_true h5, this]; rfl
    by_cases h7 : q.seed = 0
    case neg => have : (q.seed != (0 : Int)) = true := by simpa using h7
                rw [decide_eq_true h2, decide_eq_true h3, h1, h4, decide_eq_true h5, h6, this]; rfl
    have main : L18_36_0 q.k q.a q.b q.c q.room q.ls q.v0 q.v1 q.v2 q.v3 q.v4 q.v5 q.v6 q.v7 q.seed q.k q.a q.b q.c q.v0 q.v1 q.v2 q.v3 q.v4 q.v5 q.v6 q.v7 = some false := by
      unfold L18_36_0
      simp only [v39_eq, v40_eq, ok_some, val_some, cond_true, cond_nb]
      by_cases h8 : 0 ≤ q.v7 ∧ q.v7 ≤ 10000000
      case neg => rw [decide_eq_false h8]; rfl
      have w1 : IntKind.wrap IntKind.i64 (q.v7 + q.b) = q.v7 + q.b := wrap_id (by omega) (by omega)
      have w2 : IntKind.wrap IntKind.i64 (q.v7 + q.b + 1) = q.v7 + q.b + 1 := wrap_id (by omega) (by omega)
      rw [w1, w2, decide_eq_true h8]
      simp only [cond_true]
      by_cases h9 : 0 ≤ q.v0 ∧ q.v0 ≤ q.v7 + q.b + 1
      case neg => rw [decide_eq_false h9]; rfl
      by_cases h10 : 0 ≤ q.v1 ∧ q.v1 ≤ 1000000000
      case neg => rw [decide_eq_true h9, decide_eq_false h10]; rfl
      rw [decide_eq_true h9, decide_eq_true h10]
      simp only [cond_true]
      have rest : (cond (decide (0 < (q.ls.length : Int))) (cond (decide (((q.ls.getD (Int.toNat (0 : Int)) []).length : Int) > q.room)) (some false) (cond (ok (L18_52_0 q.k q.a q.b q.c q.room q.ls q.v0 q.v1 q.v2 q.v3 q.v4 q.v5 q.v6 q.v7 q.seed q.v0 q.v1 q.v2 q.v3 q.v4 q.v5 q.v6 q.v7)) (some (val (L18_52_0 q.k q.a q.b q.c q.room q.ls q.v0 q.v1 q.v2 q.v3 q.v4 q.v5 q.v6 q.v7 q.seed q.v0 q.v1 q.v2 q.v3 q.v4 q.v5 q.v6 q.v7))) none)) none) = some false ∨ (q.v0 = 0 ∧ q.v1 ≠ 0) := by
        by_cases h11 : q.v0 = 0 → q.v1 = 0
        case neg => exact .inr (Classical.not_imp.1 h11)
        left
        rw [decide_eq_true (show (0 : Int) < (q.ls.length : Int) by omega)]
        have e : q.ls.getD (Int.toNat (0 : Int)) [] = first q := rfl
        rw [e]
        by_cases h12 : ((first q).length : Int) ≤ q.room
        case neg => rw [decide_eq_true (show ((first q).length : Int) > q.room by omega)]; rfl
        rw [decide_eq_false (show ¬ ((first q).length : Int) > q.room by omega)]
        simp only [cond_true, cond_false]
        unfold L18_52_0
        rw [v41_eq _ (by simp), L18_68_eq q hf h6]
        simp only [ok_some, val_some, cond_true]
        cases hz : [q.v2, q.v3, q.v4, q.v5, q.v6].any (· != 0) with
        | true => rfl
        | false =>
          simp only [cond_false]
          cases hl : lst q.v7 0 (first q) with
          | false => rfl
          | true =>
            simp at hz
            exact absurd ⟨h1, h2, h3, h4, h5, h6, h7, h8, h9, h10, h11, h12, hz.1, hz.2.1, hz.2.2.1, hz.2.2.2.1, hz.2.2.2.2, hl⟩ hv
      rcases rest with hr | ⟨z0, z1⟩
      · rw [hr]
        by_cases z : q.v0 = 0
        · rw [z]
          by_cases z2 : q.v1 = 0
          · rw [z2]; rfl
          · have : (q.v1 != (0 : Int)) = true := by simpa using z2
            rw [this]; rfl
        · have : (q.v0 == (0 : Int)) = false := by simpa using z
          rw [this]; rfl
      · have : (q.v1 != (0 : Int)) = true := by simpa using z1
        rw [z0, this]; rfl
    rw [decide_eq_true h2, decide_eq_true h3, decide_eq_true h5, main, h1, h4, h6, h7]; rfl
end Go.Proofs.Ythbinbcgjhnijaa
set_option linter.unusedVariables false
set_option maxRecDepth 100000
namespace Go.Proofs.Ythbinbcgjhnijaa
open Go Go.AM Go.TM Go.Proofs
theorem copy_all {α : Type} (l : List α) (x : α) : List.take (List.length (List.replicate (Int.toNat (l.length : Int)) x)) l ++ List.drop l.length (List.replicate (Int.toNat (l.length : Int)) x) = l := by
  simp
def opn (q : Qu) (now : Int) : Int := cond (vd q) (cond (decide (0 ≤ now ∧ now ≤ 10000000)) (cond (decide (now < q.v7)) 18 0) 1) 1
theorem len_first {q : Qu} (h : vd q = true) : (first q).length ≤ 500 := by
  have hv := vd_iff.1 h
  have h1 := hv.len
  have h2 := hv.room
  omega
theorem v32_eq (q : Qu) (now : Int) (hf : Len (first q)) : v32 q.k q.a q.b q.c q.room q.ls q.v0 q.v1 q.v2 q.v3 q.v4 q.v5 q.v6 q.v7 q.seed now = some (cond (decide (opn q now = 0)) (.inr (0, first q)) (.inl (opn q now))) := by
  unfold v32 opn
  rw [v18_eq q hf, v40_eq]
  simp only [ok_some, val_some, cond_true, cond_nb]
  cases h : vd q with
  | false => rfl
  | true =>
    have hl := len_first h
    have hv := vd_iff.1 h
    simp only [cond_true]
    by_cases h1 : 0 ≤ now ∧ now ≤ 10000000
    case neg => rw [decide_eq_false h1]; rfl
    rw [decide_eq_true h1]
    simp only [cond_true]
    by_cases h2 : now < q.v7
    case pos => rw [decide_eq_true h2]; rfl
    rw [decide_eq_false h2, decide_eq_true (show (0 : Int) < (q.ls.length : Int) by rw [hv.one]; decide)]
    have e : q.ls.getD (Int.toNat (0 : Int)) [] = first q := rfl
    have w : IntKind.wrap IntKind.i64 (((first q).length : Int) + 1) = ((first q).length : Int) + 1 := wrap_id (by omega) (by omega)
    rw [e, w, decide_eq_true (show ((first q).length : Int) ≤ ((first q).length : Int) + 1 by omega), decide_eq_true (show ((first q).length : Int) + 1 ≤ ((2147483648 : Nat) : Int) by omega), copy_all]
    rfl
abbrev QT := Int × Int × Int × Int × Int × List (List QD) × Int × Int × Int × Int × Int × Int × Int × Int × Int
def putR (q : Qu) (p : PK) (now : Int) : Int × Int × Int × Int × Int × List (List QD) × Int × Int × Int × Int × Int × Int × Int × Int × Int × List PK × Int :=
  cond (pkOk p) (cond (decide (opn q now = 0))
    (cond (decide (((first q).length : Int) ≥ q.room))
      (q.k, q.a, q.b, q.c, q.room, [first q], q.v0, q.v1, q.v2, q.v3, q.v4, q.v5, q.v6, now, q.seed, [p], 0)
      (q.k, q.a, q.b, q.c, q.room, [first q ++ [(p, now)]], q.v0, q.v1, q.v2, q.v3, q.v4, q.v5, q.v6, now, q.seed, [], 0))
    (0, 0, 0, 0, 0, [], 0, 0, 0, 0, 0, 0, 0, 0, 0, [], opn q now))
   (0, 0, 0, 0, 0, [], 0, 0, 0, 0, 0, 0, 0, 0, 0, [], 1)
theorem opn_vd {q : Qu} {now : Int} (h : opn q now = 0) : vd q = true ∧ 0 ≤ now ∧ now ≤ 10000000 ∧ q.v7 ≤ now := by
  unfold opn at h
  cases hv : vd q with
  | false => rw [hv] at h; cases h
  | true =>
    rw [hv] at h
    simp only [cond_true] at h
    by_cases h1 : 0 ≤ now ∧ now ≤ 10000000
    case neg => rw [decide_eq_false h1] at h; cases h
    rw [decide_eq_true h1] at h
    simp only [cond_true] at h
    by_cases h2 : now < q.v7
    case pos => rw [decide_eq_true h2] at h; cases h
    exact ⟨rfl, h1.1, h1.2, by omega⟩
theorem L12_28_eq (q : Qu) (p : PK) (now : Int) (hf : Len (first q)) : L12_28_0 now q.k q.a q.b q.c q.room q.ls q.v0 q.v1 q.v2 q.v3 q.v4 q.v5 q.v6 q.v7 q.seed p.1 p.2.1 p.2.2.1 p.2.2.2.1 p.2.2.2.2.1 p.2.2.2.2.2.1 p.2.2.2.2.2.2.1 p.2.2.2.2.2.2.2 0 0 0 0 0 0 0 0 0 0 0 0 0 0 [] =
    some (cond (decide (opn q now = 0)) (cond (decide (((first q).length : Int) ≥ q.room)) (.inr (.inl (0, [p], first q))) (.inr (.inr (0, first q ++ [(p, now)])))) (.inl (opn q now, 0, 0, 0, 0, 0, 0, 0, 0, 0, 0, 0, 0, 0, 0))) := by
  unfold L12_28_0
  rw [v32_eq q now hf]
  by_cases h : opn q now = 0
  · have hl := len_first (opn_vd h).1
    rw [decide_eq_true h]
    simp only [cond_true, isL_inr, getR_inr, ok_some, val_some, cond_false]
    unfold L12_52_1 L12_68_0
    by_cases h1 : ((first q).length : Int) ≥ q.room
    · rw [decide_eq_true h1]; rfl
    · rw [decide_eq_false h1, decide_eq_true (show (first q).length + [((p.1, p.2.1, p.2.2.1, p.2.2.2.1, p.2.2.2.2.1, p.2.2.2.2.2.1, p.2.2.2.2.2.2.1, p.2.2.2.2.2.2.2), now)].length ≤ 2147483648 by simp; omega)]
      rfl
  · rw [decide_eq_false h]
    simp only [cond_false, isL_inl, getL_inl, cond_true]
    have : (opn q now != (0 : Int)) = true := by simpa using h
    rw [this]; rfl
theorem v12_eq (q : Qu) (p : PK) (now : Int) (hf : Len (first q)) : v12 q.k q.a q.b q.c q.room q.ls q.v0 q.v1 q.v2 q.v3 q.v4 q.v5 q.v6 q.v7 q.seed p.1 p.2.1 p.2.2.1 p.2.2.2.1 p.2.2.2.2.1 p.2.2.2.2.2.1 p.2.2.2.2.2.2.1 p.2.2.2.2.2.2.2 now = some (putR q p now) := by
  unfold v12 putR
  rw [v31_eq, L12_28_eq q p now hf]
  simp only [ok_some, val_some, cond_true, cond_nb]
  cases pkOk p with
  | false => rfl
  | true =>
    by_cases h : opn q now = 0
    · rw [decide_eq_true h]
      simp only [cond_true]
      by_cases h1 : ((first q).length : Int) ≥ q.room
      · rw [decide_eq_true h1]; rfl
      · rw [decide_eq_false h1]; rfl
    · rw [decide_eq_false h]; rfl
def hitS (a b now v0 v1 wait : Int) : Bool × Int × Int :=
  cond (decide (wait < a)) (false, 0, 0) (cond (decide (v0 = 0)) (false, now + b + 1, v1) (cond (decide (now ≥ v0 - 1)) (true, v0 + max 1 (Int.tdiv b (min 1000000000 (v1 + 1) + 1)), min 1000000000 (v1 + 1)) (false, v0, v1)))
theorem step_le {b v1 : Int} (hb : 1 ≤ b ∧ b ≤ 1000000) (h1 : 0 ≤ v1 ∧ v1 ≤ 1000000000) : 0 ≤ Int.tdiv b (min 1000000000 (v1 + 1) + 1) ∧ Int.tdiv b (min 1000000000 (v1 + 1) + 1) ≤ b := by
  have hm : 0 < min 1000000000 (v1 + 1) + 1 := by omega
  rw [Int.tdiv_eq_ediv_of_nonneg (by omega)]
  refine ⟨Int.ediv_nonneg (by omega) (by omega), ?_⟩
  exact Int.ediv_le_self _ (by omega)
theorem hitS_bd {a b now v0 v1 wait : Int} (hn : 0 ≤ now ∧ now ≤ 10000000) (hb : 1 ≤ b ∧ b ≤ 1000000) {m : Int} (h0 : 0 ≤ v0 ∧ v0 ≤ m) (hm : 11000001 ≤ m) (h1 : 0 ≤ v1 ∧ v1 ≤ 1000000000) :
    (0 ≤ (hitS a b now v0 v1 wait).2.1 ∧ (hitS a b now v0 v1 wait).2.1 ≤ m + 1000000) ∧ 0 ≤ (hitS a b now v0 v1 wait).2.2 ∧ (hitS a b now v0 v1 wait).2.2 ≤ 1000000000 := by
  have hs := step_le hb h1
  unfold hitS
  by_cases c1 : wait < a
  · rw [decide_eq_true c1]; simp only [cond_true]; omega
  rw [decide_eq_false c1]
  by_cases c2 : v0 = 0
  · rw [decide_eq_true c2]; simp only [cond_true, cond_false]; omega
  rw [decide_eq_false c2]
  by_cases c3 : now ≥ v0 - 1
  · rw [decide_eq_true c3]; simp only [cond_true, cond_false]; omega
  · rw [decide_eq_false c3]; simp only [cond_false]; omega
theorem v37_eq {a b now v0 v1 wait : Int} (hn : 0 ≤ now ∧ now ≤ 10000000) (hb : 1 ≤ b ∧ b ≤ 1000000) (h0 : 0 ≤ v0 ∧ v0 ≤ 9000000000000) (h1 : 0 ≤ v1 ∧ v1 ≤ 1000000000) (k c room v2 v3 v4 v5 v6 v7 seed : Int) (x : Nat) (y : List QD) :
    v37 wait k a b c room v0 v1 v2 v3 v4 v5 v6 v7 seed now x y = some (hitS a b now v0 v1 wait) := by
  unfold v37 v38 hitS
  have hs := step_le hb h1
  have w1 : IntKind.wrap IntKind.i64 (now + b) = now + b := wrap_id (by omega) (by omega)
  have w2 : IntKind.wrap IntKind.i64 (now + b + 1) = now + b + 1 := wrap_id (by omega) (by omega)
  have w3 : IntKind.wrap IntKind.i64 (v0 - 1) = v0 - 1 := wrap_id (by omega) (by omega)
  have w4 : IntKind.wrap IntKind.i64 (v1 + 1) = v1 + 1 := wrap_id (by omega) (by omega)
  have w5 : IntKind.wrap IntKind.i64 (min 1000000000 (v1 + 1) + 1) = min 1000000000 (v1 + 1) + 1 := wrap_id (by omega) (by omega)
  have w6 : IntKind.wrap IntKind.i64 (Int.tdiv b (min 1000000000 (v1 + 1) + 1)) = Int.tdiv b (min 1000000000 (v1 + 1) + 1) := wrap_id (by omega) (by omega)
  have w7 : IntKind.wrap IntKind.i64 (v0 + max 1 (Int.tdiv b (min 1000000000 (v1 + 1) + 1))) = v0 + max 1 (Int.tdiv b (min 1000000000 (v1 + 1) + 1)) := wrap_id (by omega) (by omega)
  simp only [w1, w2, w3, w4, w5, w6, w7, val_some]
  rw [decide_eq_true (show min 1000000000 (v1 + 1) + 1 ≠ 0 by omega), beq_dec]
  simp only [cond_true]
  cases decide (wait < a) <;> cases decide (v0 = 0) <;> cases decide (now ≥ v0 - 1) <;> rfl
def takeS (a b now : Int) : List QD → Int → Int → List PK → List QD × Int × Int × Option PK × List PK
  | [], _, _, d => ([], 0, 0, none, d)
  | w :: r, v0, v1, d =>
    cond ((hitS a b now v0 v1 (now - w.2)).1 && !w.1.2.2.2.2.2.2.1) (takeS a b now r (hitS a b now v0 v1 (now - w.2)).2.1 (hitS a b now v0 v1 (now - w.2)).2.2 (d ++ [w.1]))
      (r, (hitS a b now v0 v1 (now - w.2)).2.1, (hitS a b now v0 v1 (now - w.2)).2.2, some (w.1.1, w.1.2.1, w.1.2.2.1, w.1.2.2.2.1, w.1.2.2.2.2.1, w.1.2.2.2.2.2.1, w.1.2.2.2.2.2.2.1, w.1.2.2.2.2.2.2.2 || (hitS a b now v0 v1 (now - w.2)).1), d)
theorem v36_eq (p : PK) (d : List PK) (hd : d.length ≤ 1000) : v36 p.1 p.2.1 p.2.2.1 p.2.2.2.1 p.2.2.2.2.1 p.2.2.2.2.2.1 p.2.2.2.2.2.2.1 p.2.2.2.2.2.2.2 d = some (d ++ [p]) := by
  unfold v36
  rw [decide_eq_true (show d.length + [(p.1, p.2.1, p.2.2.1, p.2.2.2.1, p.2.2.2.2.1, p.2.2.2.2.2.1, p.2.2.2.2.2.2.1, p.2.2.2.2.2.2.2)].length ≤ 2147483648 by simp; omega)]
  rfl
theorem l14_68 (s1 s2 s3 s4 s5 s6 s7 s8 s9 s10 s11 s12 s13 s14 s15 s16 s17 s18 s19 s20 : Int) (s21 s22 : Bool) (p : PK) (at' : Int) (d : List PK) (k a b c room v0 v1 v2 v3 v4 v5 v6 v7 seed now : Int) (l : List QD) (y : List (List QD))
    (hn : 0 ≤ now ∧ now ≤ 10000000) (hb : 1 ≤ b ∧ b ≤ 1000000) (h0 : 0 ≤ v0 ∧ v0 ≤ 9000000000000) (h1 : 0 ≤ v1 ∧ v1 ≤ 1000000000) (hat : 0 ≤ at' ∧ at' ≤ 10000000) (hl : 1 ≤ l.length) (hd : d.length ≤ 1000) :
    L14_68_0 now s1 s2 s3 s4 s5 s6 s7 s8 s9 s10 s11 s12 s13 s14 s15 s16 s17 s18 s19 s20 s21 s22 p.1 p.2.1 p.2.2.1 p.2.2.2.1 p.2.2.2.2.1 p.2.2.2.2.2.1 p.2.2.2.2.2.2.1 p.2.2.2.2.2.2.2 at' d k a b c room v0 v1 v2 v3 v4 v5 v6 v7 seed now l y =
    some (cond ((hitS a b now v0 v1 (now - at')).1 && !p.2.2.2.2.2.2.1) (.inl (d ++ [p], (hitS a b now v0 v1 (now - at')).2.1, (hitS a b now v0 v1 (now - at')).2.2, l.length - 1))
      (.inr (true, 0, (hitS a b now v0 v1 (now - at')).2.1, (hitS a b now v0 v1 (now - at')).2.2, p.2.2.2.2.2.2.2 || (hitS a b now v0 v1 (now - at')).1, l.length - 1))) := by
  have w1 : IntKind.wrap IntKind.i64 (now - at') = now - at' := wrap_id (by omega) (by omega)
  have n1 : Int.toNat 1 = 1 := rfl
  unfold L14_68_0
  rw [n1, w1, v37_eq hn hb h0 h1, v36_eq p d hd, decide_eq_true hl, decide_eq_true (Nat.le_refl _)]
  unfold L14_100_0 L14_100_1
  simp only [cond_true, ok_some, val_some]
  cases (hitS a b now v0 v1 (now - at')).1 <;> cases p.2.2.2.2.2.2.1 <;> cases p.2.2.2.2.2.2.2 <;> rfl
def tkE (a b now : Int) : List QD → Int → Int → List PK → (Bool × Int × Int × Int × Int × Int × Int × Int × Int × Int × Bool × Bool × List PK × Nat × List QD) ⊕ (Int × Int × List QD × List PK)
  | [], v0, v1, d => .inr (v0, v1, [], d)
  | w :: r, v0, v1, d => cond ((hitS a b now v0 v1 (now - w.2)).1 && !w.1.2.2.2.2.2.2.1) (tkE a b now r (hitS a b now v0 v1 (now - w.2)).2.1 (hitS a b now v0 v1 (now - w.2)).2.2 (d ++ [w.1]))
      (.inl (true, 0, (hitS a b now v0 v1 (now - w.2)).2.1, (hitS a b now v0 v1 (now - w.2)).2.2, w.1.1, w.1.2.1, w.1.2.2.1, w.1.2.2.2.1, w.1.2.2.2.2.1, w.1.2.2.2.2.2.1, w.1.2.2.2.2.2.2.1, w.1.2.2.2.2.2.2.2 || (hitS a b now v0 v1 (now - w.2)).1, d, (w :: r).length - 1, w :: r))
theorem l14_0 (s1 s2 s3 s4 s5 s6 s7 s8 s9 s10 s11 s12 s13 s14 s15 s16 s17 s18 s19 s20 : Int) (s21 s22 : Bool) (k a b c room v2 v3 v4 v5 v6 v7 seed now : Int) (y : List (List QD)) (hn : 0 ≤ now ∧ now ≤ 10000000) (hb : 1 ≤ b ∧ b ≤ 1000000) :
    ∀ (l : List QD) (n : Nat) (v0 v1 m : Int) (d : List PK), l.length < n → (∀ w ∈ l, 0 ≤ w.2 ∧ w.2 ≤ 10000000) → (0 ≤ v0 ∧ v0 ≤ m) → 11000001 ≤ m → m + 1000000 * (l.length : Int) ≤ 9000000000000 → (0 ≤ v1 ∧ v1 ≤ 1000000000) → d.length + l.length ≤ 1000 →
    L14_0_1 n now s1 s2 s3 s4 s5 s6 s7 s8 s9 s10 s11 s12 s13 s14 s15 s16 s17 s18 s19 s20 s21 s22 d k a b c room v0 v1 v2 v3 v4 v5 v6 v7 seed now l y = some (tkE a b now l v0 v1 d)
  | [], n + 1, v0, v1, m, d, _, _, _, _, _, _, _ => by
    rw [qL14_0_1, decide_eq_false (show ¬ ((([] : List QD).length : Int) > 0) by simp)]
    rfl
  | w :: r, n + 1, v0, v1, m, d, hl, hw, h0, hm, hM, h1, hd => by
    have hlen : (w :: r).length = r.length + 1 := List.length_cons
    have hww := hw w (List.mem_cons_self ..)
    have hg : List.getD (w :: r) (Int.toNat 0) (PKz, (0 : Int)) = w := rfl
    have e := l14_68 s1 s2 s3 s4 s5 s6 s7 s8 s9 s10 s11 s12 s13 s14 s15 s16 s17 s18 s19 s20 s21 s22 w.1 w.2 d k a b c room v0 v1 v2 v3 v4 v5 v6 v7 seed now (w :: r) y hn hb (by omega) h1 hww (by omega) (by omega)
    have hbd := hitS_bd (a := a) (v0 := v0) (v1 := v1) (wait := now - w.2) hn hb h0 hm h1
    rw [qL14_0_1, decide_eq_true (show ((w :: r).length : Int) > 0 by omega), decide_eq_true (show Int.toNat 0 < (w :: r).length by rw [hlen]; exact Nat.succ_pos _), hg, e]
    unfold tkE
    cases hc : ((hitS a b now v0 v1 (now - w.2)).1 && !w.1.2.2.2.2.2.2.1) with
    | true =>
      simp only [cond_true, isL_inl, getL_inl]
      rw [show Nat.beq (1 + ((w :: r).length - 1)) (w :: r).length = true by rw [Nat.beq_eq]; omega]
      exact l14_0 s1 s2 s3 s4 s5 s6 s7 s8 s9 s10 s11 s12 s13 s14 s15 s16 s17 s18 s19 s20 s21 s22 k a b c room v2 v3 v4 v5 v6 v7 seed now y hn hb r n _ _ (m + 1000000) (d ++ [w.1]) (by omega) (fun x hx => hw x (List.mem_cons_of_mem _ hx)) hbd.1 (by omega) (by omega) hbd.2 (by rw [List.length_append, List.length_singleton]; omega)
    | false =>
      simp only [cond_true, cond_false, isL_inr, getR_inr, ok_some, val_some]
theorem v14_err (q : Qu) (now : Int) (hf : Len (first q)) (h : opn q now ≠ 0) : v14 q.k q.a q.b q.c q.room q.ls q.v0 q.v1 q.v2 q.v3 q.v4 q.v5 q.v6 q.v7 q.seed now =
    some (0, 0, 0, 0, 0, [], 0, 0, 0, 0, 0, 0, 0, 0, 0, 0, 0, 0, 0, 0, 0, false, false, false, [], opn q now) := by
  have e := v32_eq q now hf
  rw [decide_eq_false h] at e
  unfold v14
  rw [e]
  simp only [cond_false, isL_inl, getL_inl, cond_true]
  rw [show (opn q now != (0 : Int)) = true by simpa using h]
  rfl
theorem tkE_len {a b now : Int} : ∀ {l : List QD} {v0 v1 : Int} {d : List PK} {r}, tkE a b now l v0 v1 d = .inl r → 1 + r.2.2.2.2.2.2.2.2.2.2.2.2.2.1 = r.2.2.2.2.2.2.2.2.2.2.2.2.2.2.length
  | [], v0, v1, d, r, h => by unfold tkE at h; cases h
  | w :: l, v0, v1, d, r, h => by
    unfold tkE at h
    cases hc : ((hitS a b now v0 v1 (now - w.2)).1 && !w.1.2.2.2.2.2.2.1) with
    | true => rw [hc] at h; exact tkE_len h
    | false =>
      rw [hc] at h
      cases h
      simp only [List.length_cons]
      omega
theorem lst_at {hi0 : Int} : ∀ {l : List QD} {last : Int}, 0 ≤ last → lst hi0 last l = true → ∀ w ∈ l, 0 ≤ w.2 ∧ w.2 ≤ hi0
  | [], _, _, _, w, hw => by cases hw
  | x :: r, last, h0, h, w, hw => by
    unfold lst at h
    cases hp : pkOk x.1 with
    | false => rw [hp] at h; cases h
    | true =>
      rw [hp] at h
      simp only [cond_true] at h
      by_cases c : last ≤ x.2 ∧ x.2 ≤ hi0
      · rw [decide_eq_true c] at h
        rcases List.mem_cons.1 hw with e | e
        · rw [e]; omega
        · exact lst_at (by omega) h w e
      · rw [decide_eq_false c] at h; cases h
theorem cond_dec {α : Type} {p : Prop} {inst : Decidable p} (h : p) (a b : α) : cond (@decide p inst) a b = a := by rw [decide_eq_true h]; rfl
theorem v14_ok (q : Qu) (now : Int) (hf : Len (first q)) (h : opn q now = 0) :
    (∃ r, tkE q.a q.b now (first q) q.v0 q.v1 [] = .inl r ∧ v14 q.k q.a q.b q.c q.room q.ls q.v0 q.v1 q.v2 q.v3 q.v4 q.v5 q.v6 q.v7 q.seed now =
      some (q.k, q.a, q.b, q.c, q.room, [List.take r.2.2.2.2.2.2.2.2.2.2.2.2.2.1 (List.drop 1 r.2.2.2.2.2.2.2.2.2.2.2.2.2.2)], r.2.2.1, r.2.2.2.1, q.v2, q.v3, q.v4, q.v5, q.v6, now, q.seed,
        r.2.2.2.2.1, r.2.2.2.2.2.1, r.2.2.2.2.2.2.1, r.2.2.2.2.2.2.2.1, r.2.2.2.2.2.2.2.2.1, r.2.2.2.2.2.2.2.2.2.1, r.2.2.2.2.2.2.2.2.2.2.1, r.2.2.2.2.2.2.2.2.2.2.2.1, r.1, r.2.2.2.2.2.2.2.2.2.2.2.2.1, r.2.1)) ∨
    (∃ r, tkE q.a q.b now (first q) q.v0 q.v1 [] = .inr r ∧ v14 q.k q.a q.b q.c q.room q.ls q.v0 q.v1 q.v2 q.v3 q.v4 q.v5 q.v6 q.v7 q.seed now =
      some (q.k, q.a, q.b, q.c, q.room, [r.2.2.1], 0, 0, q.v2, q.v3, q.v4, q.v5, q.v6, now, q.seed, 0, 0, 0, 0, 0, 0, false, false, false, r.2.2.2, 0)) := by
  have e := v32_eq q now hf
  rw [decide_eq_true h] at e
  obtain ⟨hv, hn0, hn1, hn7⟩ := opn_vd h
  have hvd := vd_iff.1 hv
  have hl := len_first hv
  have hb := hvd.b
  have h0 := hvd.v0
  have h1 := hvd.v1
  have h7 := hvd.v7
  have hat := lst_at (Int.le_refl 0) hvd.lst
  have hk := l14_0 0 0 0 0 0 0 0 0 0 0 0 0 0 0 0 0 0 0 0 0 false false q.k q.a q.b q.c q.room q.v2 q.v3 q.v4 q.v5 q.v6 now q.seed now [] ⟨hn0, hn1⟩ hb (first q) FU q.v0 q.v1 20000000 [] (by unfold FU; omega)
    (fun w hw => by have := hat w hw; omega) (by omega) (by omega) (by omega) h1 (by simp only [List.length_nil]; omega)
  unfold v14
  rw [e]
  simp only [cond_true, isL_inr, getR_inr, ok_some, val_some, cond_false]
  rw [show (((0 : Int) != (0 : Int)) = false) from rfl]
  simp only [cond_false]
  unfold L14_36_1
  simp only [hk]
  cases ht : tkE q.a q.b now (first q) q.v0 q.v1 [] with
  | inl r =>
    left
    have hlen := tkE_len ht
    refine ⟨r, rfl, ?_⟩
    simp only [cond_true, isL_inl, getL_inl]
    exact (cond_dec (show 1 + r.2.2.2.2.2.2.2.2.2.2.2.2.2.1 ≤ r.2.2.2.2.2.2.2.2.2.2.2.2.2.2.length by omega) _ _).trans rfl
  | inr r =>
    right
    refine ⟨r, rfl, ?_⟩
    simp only [cond_true, cond_false, isL_inr, getR_inr, ok_some, val_some]
    rfl
theorem lst_cons {hi last : Int} {w : QD} {r : List QD} : lst hi last (w :: r) = true ↔ pkOk w.1 = true ∧ (last ≤ w.2 ∧ w.2 ≤ hi) ∧ lst hi w.2 r = true := by
  have e : lst hi last (w :: r) = cond (pkOk w.1) (cond (decide (last ≤ w.2 ∧ w.2 ≤ hi)) (lst hi w.2 r) false) false := by rw [lst]
  rw [e]
  cases hp : pkOk w.1 with
  | false => simp
  | true =>
    simp only [cond_true]
    by_cases c : last ≤ w.2 ∧ w.2 ≤ hi
    · rw [decide_eq_true c]
      exact ⟨fun h => ⟨trivial, c, h⟩, fun h => h.2.2⟩
    · rw [decide_eq_false c]
      exact ⟨fun h => (by cases h), fun h => absurd h.2.1 c⟩
theorem lst_mono {hi hi' : Int} (h : hi ≤ hi') : ∀ {l : List QD} {last : Int}, lst hi last l = true → lst hi' last l = true
  | [], _, _ => rfl
  | w :: r, last, hx => by
    obtain ⟨a, b, c⟩ := lst_cons.1 hx
    exact lst_cons.2 ⟨a, ⟨b.1, by omega⟩, lst_mono h c⟩
theorem lst_snoc {hi : Int} {p : PK} (hp : pkOk p = true) : ∀ {l : List QD} {last : Int}, last ≤ hi → lst hi last l = true → lst hi last (l ++ [(p, hi)]) = true
  | [], last, h, _ => lst_cons.2 ⟨hp, ⟨h, Int.le_refl _⟩, rfl⟩
  | w :: r, last, h, hx => by
    obtain ⟨a, b, c⟩ := lst_cons.1 hx
    exact lst_cons.2 ⟨a, b, lst_snoc hp b.2 c⟩
theorem lst_low {hi a b : Int} (h : a ≤ b) {l : List QD} (hx : lst hi b l = true) : lst hi a l = true := by
  cases l with
  | nil => rfl
  | cons w r =>
    obtain ⟨x, y, z⟩ := lst_cons.1 hx
    exact lst_cons.2 ⟨x, ⟨by omega, y.2⟩, z⟩
theorem opn_of {q : Qu} {now : Int} (hv : Vd q) (h0 : 0 ≤ now) (h1 : now ≤ 10000000) (h7 : q.v7 ≤ now) : opn q now = 0 := by
  unfold opn
  rw [vd_iff.2 hv, decide_eq_true (show 0 ≤ now ∧ now ≤ 10000000 from ⟨h0, h1⟩), decide_eq_false (show ¬ now < q.v7 by omega)]
  rfl
theorem len_ok {q : Qu} (hv : Vd q) : Len (first q) := by
  have := hv.len
  have := hv.room
  show (first q).length ≤ 9223372036854775807
  omega
theorem vd_put {q : Qu} {p : PK} {now : Int} (hv : Vd q) (h1 : now ≤ 10000000) (h7 : q.v7 ≤ now) (hp : pkOk p = true) (hl : ((first q).length : Int) < q.room) : Vd { q with ls := [first q ++ [(p, now)]], v7 := now } := by
  have h7' := hv.v7
  have h0 := hv.v0
  exact ⟨hv.k, hv.a, hv.b, hv.c, hv.room, rfl, hv.seed, ⟨by show 0 ≤ now; omega, h1⟩, ⟨h0.1, by show q.v0 ≤ now + q.b + 1; omega⟩, hv.v1, hv.v01,
    by show ((first q ++ [(p, now)]).length : Int) ≤ q.room; rw [List.length_append]; simp only [List.length_cons, List.length_nil]; omega, hv.v2, hv.v3, hv.v4, hv.v5, hv.v6, lst_snoc hp (by show (0 : Int) ≤ now; omega) (lst_mono h7 hv.lst)⟩
theorem vd_wait {q : Qu} {now : Int} (hv : Vd q) (h1 : now ≤ 10000000) (h7 : q.v7 ≤ now) : Vd { q with ls := [first q], v7 := now } := by
  have h7' := hv.v7
  have h0 := hv.v0
  exact ⟨hv.k, hv.a, hv.b, hv.c, hv.room, rfl, hv.seed, ⟨by show 0 ≤ now; omega, h1⟩, ⟨h0.1, by show q.v0 ≤ now + q.b + 1; omega⟩, hv.v1, hv.v01, hv.len, hv.v2, hv.v3, hv.v4, hv.v5, hv.v6, lst_mono h7 hv.lst⟩
theorem vd_none {q : Qu} {now : Int} (hv : Vd q) (h1 : now ≤ 10000000) (h7 : q.v7 ≤ now) : Vd { q with ls := [[]], v0 := 0, v1 := 0, v7 := now } := by
  have h7' := hv.v7
  have hb := hv.b
  have hr := hv.room
  exact ⟨hv.k, hv.a, hv.b, hv.c, hv.room, rfl, hv.seed, ⟨by show 0 ≤ now; omega, h1⟩, ⟨Int.le_refl _, by show 0 ≤ now + q.b + 1; omega⟩, ⟨Int.le_refl _, by show (0 : Int) ≤ 1000000000; omega⟩, fun _ => rfl, by show (0 : Int) ≤ q.room; omega, hv.v2, hv.v3, hv.v4, hv.v5, hv.v6, rfl⟩
theorem hit_vd {q : Qu} {now wait : Int} (hv : Vd q) (h7 : q.v7 ≤ now) : (0 ≤ (hitS q.a q.b now q.v0 q.v1 wait).2.1 ∧ (hitS q.a q.b now q.v0 q.v1 wait).2.1 ≤ now + q.b + 1) ∧ (0 ≤ (hitS q.a q.b now q.v0 q.v1 wait).2.2 ∧ (hitS q.a q.b now q.v0 q.v1 wait).2.2 ≤ 1000000000) ∧
    ((hitS q.a q.b now q.v0 q.v1 wait).2.1 = 0 → (hitS q.a q.b now q.v0 q.v1 wait).2.2 = 0) := by
  have h7' := hv.v7
  have hb := hv.b
  have h0 := hv.v0
  have h1 := hv.v1
  have hs := step_le hb h1
  unfold hitS
  by_cases c1 : wait < q.a
  · rw [decide_eq_true c1]; exact ⟨⟨Int.le_refl _, by show (0 : Int) ≤ now + q.b + 1; omega⟩, ⟨Int.le_refl _, by show (0 : Int) ≤ 1000000000; omega⟩, fun _ => rfl⟩
  rw [decide_eq_false c1]
  by_cases c2 : q.v0 = 0
  · rw [decide_eq_true c2]; simp only [cond_true, cond_false]; omega
  rw [decide_eq_false c2]
  by_cases c3 : now ≥ q.v0 - 1
  · rw [decide_eq_true c3]; simp only [cond_true, cond_false]; omega
  · rw [decide_eq_false c3]; simp only [cond_false]; omega
theorem vd_take {q : Qu} {w : QD} {l : List QD} {now wait : Int} (hv : Vd q) (h1 : now ≤ 10000000) (h7 : q.v7 ≤ now) (hw : first q = w :: l) : Vd { q with ls := [l], v0 := (hitS q.a q.b now q.v0 q.v1 wait).2.1, v1 := (hitS q.a q.b now q.v0 q.v1 wait).2.2, v7 := now } := by
  have h7' := hv.v7
  obtain ⟨k1, k2, k3⟩ := hit_vd (wait := wait) hv h7
  have hx := hv.lst
  have hl := hv.len
  rw [hw] at hx hl
  obtain ⟨_, y, z⟩ := lst_cons.1 hx
  exact ⟨hv.k, hv.a, hv.b, hv.c, hv.room, rfl, hv.seed, ⟨by show 0 ≤ now; omega, h1⟩, k1, k2, k3,
    by show (l.length : Int) ≤ q.room; simp only [List.length_cons] at hl; omega, hv.v2, hv.v3, hv.v4, hv.v5, hv.v6, lst_low y.1 (lst_mono h7 z)⟩
theorem v14_none (q : Qu) (now : Int) (hv : Vd q) (h0 : 0 ≤ now) (h1 : now ≤ 10000000) (h7 : q.v7 ≤ now) (hw : first q = []) : v14 q.k q.a q.b q.c q.room q.ls q.v0 q.v1 q.v2 q.v3 q.v4 q.v5 q.v6 q.v7 q.seed now =
    some (q.k, q.a, q.b, q.c, q.room, [[]], 0, 0, q.v2, q.v3, q.v4, q.v5, q.v6, now, q.seed, 0, 0, 0, 0, 0, 0, false, false, false, [], 0) := by
  rcases v14_ok q now (len_ok hv) (opn_of hv h0 h1 h7) with ⟨r, hr, e⟩ | ⟨r, hr, e⟩
  · rw [hw] at hr; unfold tkE at hr; cases hr
  · rw [hw] at hr; unfold tkE at hr; cases hr; exact e
theorem v14_able (q : Qu) (now : Int) (w : QD) (l : List QD) (hv : Vd q) (h0 : 0 ≤ now) (h1 : now ≤ 10000000) (h7 : q.v7 ≤ now) (hw : first q = w :: l) (ha : w.1.2.2.2.2.2.2.1 = true) : v14 q.k q.a q.b q.c q.room q.ls q.v0 q.v1 q.v2 q.v3 q.v4 q.v5 q.v6 q.v7 q.seed now =
    some (q.k, q.a, q.b, q.c, q.room, [l], (hitS q.a q.b now q.v0 q.v1 (now - w.2)).2.1, (hitS q.a q.b now q.v0 q.v1 (now - w.2)).2.2, q.v2, q.v3, q.v4, q.v5, q.v6, now, q.seed,
      w.1.1, w.1.2.1, w.1.2.2.1, w.1.2.2.2.1, w.1.2.2.2.2.1, w.1.2.2.2.2.2.1, w.1.2.2.2.2.2.2.1, (w.1.2.2.2.2.2.2.2 || (hitS q.a q.b now q.v0 q.v1 (now - w.2)).1), true, [], 0) := by
  rcases v14_ok q now (len_ok hv) (opn_of hv h0 h1 h7) with ⟨r, hr, e⟩ | ⟨r, hr, e⟩
  · rw [hw] at hr; unfold tkE at hr
    rw [ha, Bool.not_true, Bool.and_false, cond_false] at hr
    cases hr
    rw [e, ha]
    simp only [List.length_cons, Nat.add_sub_cancel, List.drop_succ_cons, List.drop_zero, List.take_length]
  · rw [hw] at hr; unfold tkE at hr
    rw [ha, Bool.not_true, Bool.and_false, cond_false] at hr
    cases hr
end Go.Proofs.Ythbinbcgjhnijaa
set_option linter.unusedVariables false
set_option maxRecDepth 100000
set_option maxHeartbeats 1000000
namespace Go.Proofs.Ythbinbcgjhnijaa
open Go Go.AM Go.TM Go.Proofs
def Sb (b : Int) : Nat → Int
  | 0 => 0
  | n + 1 => Sb b n + max 1 (Int.tdiv b ((n : Int) + 1))
theorem dv {b k : Int} (hb : 1 ≤ b ∧ b ≤ 1000000) (hk : 1 ≤ k) : 0 ≤ Int.tdiv b k ∧ Int.tdiv b k ≤ b := by
  rw [Int.tdiv_eq_ediv_of_nonneg (by omega)]
  exact ⟨Int.ediv_nonneg (by omega) (by omega), Int.ediv_le_self _ (by omega)⟩
theorem Sb_bd {b : Int} (hb : 1 ≤ b ∧ b ≤ 1000000) : ∀ n : Nat, 0 ≤ Sb b n ∧ Sb b n ≤ 1000000 * (n : Int)
  | 0 => ⟨Int.le_refl _, by show (0 : Int) ≤ 1000000 * ((0 : Nat) : Int); omega⟩
  | n + 1 => by
    have h1 := Sb_bd hb n
    have h2 := dv (k := (n : Int) + 1) hb (by omega)
    unfold Sb
    omega
theorem l24_16 {b : Int} (hb : 1 ≤ b ∧ b ≤ 1000000) (h : Nat) (hh : h ≤ 1000) (x0 x1 x4 x5 x6 x7 x9 x10 : Int) (x11 : List (List QD)) (x12 x13 x14 x15 x16 x17 x18 x19 x20 x21 : Int) : ∀ (k n j : Nat), j + k = h → k < n →
    L24_16_0 n x0 x1 (Sb b j) ((j : Int) + 1) x4 x5 x6 x7 b x9 x10 x11 x12 x13 x14 x15 x16 x17 x18 x19 x20 x21 (h : Int) = some (Sb b h) := by
  intro k
  induction k with
  | zero =>
    intro n j hj hn
    cases n with
    | zero => omega
    | succ n =>
    have e : j = h := by omega
    rw [qL24_16_0, decide_eq_false (show ¬ (j : Int) + 1 ≤ (h : Int) by omega), e]
    rfl
  | succ k ih =>
    intro n j hj hn
    cases n with
    | zero => omega
    | succ n =>
    have h1 := Sb_bd hb j
    have h2 := dv (k := (j : Int) + 1) hb (by omega)
    have w1 : IntKind.wrap IntKind.i64 (Int.tdiv b ((j : Int) + 1)) = Int.tdiv b ((j : Int) + 1) := wrap_id (by omega) (by omega)
    have w2 : IntKind.wrap IntKind.i64 (Sb b j + max 1 (Int.tdiv b ((j : Int) + 1))) = Sb b j + max 1 (Int.tdiv b ((j : Int) + 1)) := wrap_id (by omega) (by omega)
    have w3 : IntKind.wrap IntKind.i64 ((j : Int) + 1 + 1) = ((j + 1 : Nat) : Int) + 1 := by rw [wrap_id (by omega) (by omega)]; omega
    rw [qL24_16_0, decide_eq_true (show (j : Int) + 1 ≤ (h : Int) by omega), decide_eq_true (show (j : Int) + 1 ≠ 0 by omega), w1, w2, w3]
    exact ih n (j + 1) (by omega) (by omega)
theorem cond_ndec {α : Type} {p : Prop} {inst : Decidable p} (h : ¬ p) (a b : α) : cond (@decide p inst) a b = b := by rw [decide_eq_false h]; rfl
theorem l24_0 (q : Qu) (now bg x1 : Int) (hb : 1 ≤ q.b ∧ q.b ≤ 1000000) (hn : 0 ≤ now ∧ now ≤ 10000000) (hbg : 0 ≤ bg ∧ bg ≤ 10000000) (m : Nat) : ∀ (k n i h : Nat), i + k = m → k < n → h + k ≤ 1000 → m ≤ 1000 → (∀ j, h < j → j ≤ h + k → Sb q.b j ≤ now - bg) →
    L24_0_0 n now x1 (m : Int) (i : Int) q.k q.a q.b q.c q.room q.ls q.v0 q.v1 q.v2 q.v3 q.v4 q.v5 q.v6 q.v7 q.seed bg (h : Int) = some (.inr ((h + k : Nat) : Int)) := by
  intro k
  induction k with
  | zero =>
    intro n i h hi hn' hk hi' hS
    cases n with
    | zero => omega
    | succ n =>
    rw [qL24_0_0, decide_eq_false (show ¬ (i : Int) < (m : Int) by omega)]
    rfl
  | succ k ih =>
    intro n i h hi hn' hk hi' hS
    cases n with
    | zero => omega
    | succ n =>
    have w1 : IntKind.wrap IntKind.i64 ((h : Int) + 1) = ((h + 1 : Nat) : Int) := up1 (by omega)
    have w2 : IntKind.wrap IntKind.i64 ((i : Int) + 1) = ((i + 1 : Nat) : Int) := up1 (by omega)
    have w3 : IntKind.wrap IntKind.i64 (now - bg) = now - bg := wrap_id (by omega) (by omega)
    have e := l24_16 hb (h + 1) (by omega) now x1 (m : Int) (i : Int) q.k q.a q.c q.room q.ls q.v0 q.v1 q.v2 q.v3 q.v4 q.v5 q.v6 q.v7 q.seed bg (h + 1) FU 0 (by omega) (by show h + 1 < 18446744073709551616; omega)
    have e' : L24_16_0 FU now x1 0 1 (m : Int) (i : Int) q.k q.a q.b q.c q.room q.ls q.v0 q.v1 q.v2 q.v3 q.v4 q.v5 q.v6 q.v7 q.seed bg ((h + 1 : Nat) : Int) = some (Sb q.b (h + 1)) := e
    have hs := hS (h + 1) (by omega) (by omega)
    rw [qL24_0_0, decide_eq_true (show (i : Int) < (m : Int) by omega), w1, w2, w3, e']
    simp only [ok_some, val_some, cond_true]
    refine (cond_ndec (p := now - bg < Sb q.b (h + 1)) (by omega) _ _).trans ?_
    rw [ih n (i + 1) (h + 1) (by omega) (by omega) (by omega) (by omega) (fun j h1 h2 => hS j (by omega) (by omega))]
    rw [show h + 1 + k = h + (k + 1) by omega]
theorem v24_put (q : Qu) (x15 x17 : Int) (x18 : Bool) (now : Int) (x20 : Bool) (x21 x22 x23 x24 x25 x26 : Int) (x27 x28 : Bool) (x29 : Int) (x30 x31 x32 x33 x34 : Int) (x35 : List (List QD)) (x36 x37 x38 x39 x40 x41 x42 x43 x44 : Int) (x45 x46 : Int) : v24 q.k q.a q.b q.c q.room q.ls q.v0 q.v1 q.v2 q.v3 q.v4 q.v5 q.v6 q.v7 q.seed x15 false x17 x18 now x20 x21 x22 x23 x24 x25 x26 x27 x28 x29 x30 x31 x32 x33 x34 x35 x36 x37 x38 x39 x40 x41 x42 x43 x44 x45 x46 = some (true, x45, x46) := rfl
theorem v24_calm (q : Qu) (x15 x17 : Int) (x18 : Bool) (now : Int) (took : Bool) (x21 x22 x23 x24 x25 x26 : Int) (x27 mk : Bool) (x30 x31 x32 x33 x34 : Int) (x35 : List (List QD)) (x36 x37 x38 x39 x40 x41 x42 x43 x44 : Int) (x45 x46 : Int) (h1 : q.ls.length = 1) (hm : took = false ∨ mk = false) (hc : first q = [] ∨ ∃ w l, first q = w :: l ∧ now - w.2 < q.a ∧ IntKind.wrap IntKind.i64 (now - w.2) = now - w.2) :
    v24 q.k q.a q.b q.c q.room q.ls q.v0 q.v1 q.v2 q.v3 q.v4 q.v5 q.v6 q.v7 q.seed x15 true x17 x18 now took x21 x22 x23 x24 x25 x26 x27 mk 0 x30 x31 x32 x33 x34 x35 x36 x37 x38 x39 x40 x41 x42 x43 x44 x45 x46 = some (true, -1, 0) := by
  have e : (q.ls.getD (Int.toNat (0 : Int)) []) = first q := rfl
  have e4 : (cond ((0 : Int) == (0 : Int)) (cond (!took) (some (true, (-1 : Int), (0 : Int))) (some (!mk, (-1 : Int), (0 : Int)))) (some (false, (-1 : Int), (0 : Int)))) = some (true, -1, 0) := by
    rcases hm with rfl | rfl
    · rfl
    · cases took <;> rfl
  unfold v24
  rw [e, h1, e4]
  rcases hc with hc | ⟨w, l, hc, hlt, hw⟩
  · rw [hc]; rfl
  · have e0 : (((w :: l).length : Int) == (0 : Int)) = false := by simp only [List.length_cons, beq_eq_false_iff_ne]; omega
    have e1 : decide ((0 : Int) < ((w :: l).length : Int)) = true := decide_eq_true (by simp only [List.length_cons]; omega)
    have e2 : (w :: l).getD (Int.toNat (0 : Int)) (PKz, (0 : Int)) = w := rfl
    rw [hc, e0, e1, e2, hw, decide_eq_true hlt]
    rfl
theorem v24_late (q : Qu) (x15 x17 : Int) (x18 : Bool) (now : Int) (took : Bool) (x21 x22 x23 x24 x25 x26 : Int) (x27 mk : Bool) (m : Nat) (x30 x31 x32 x33 x34 : Int) (x35 : List (List QD)) (x36 x37 x38 x39 x40 x41 x42 x43 x44 : Int) (bg0 bg : Int) (h : Nat) (w : QD) (l : List QD) (h1 : q.ls.length = 1) (hw : first q = w :: l) (hwt : ¬ now - w.2 < q.a) (hat : ∀ w ∈ first q, 0 ≤ w.2 ∧ w.2 ≤ 10000000)
    (hb : 1 ≤ q.b ∧ q.b ≤ 1000000) (hn : 0 ≤ now ∧ now ≤ 10000000) (hbg : (bg0 < 0 ∧ bg = now) ∨ (0 ≤ bg0 ∧ bg = bg0 ∧ bg ≤ now)) (hm : h + m ≤ 900) (hS : ∀ j, h < j → j ≤ h + (m + (took && mk).toNat) → Sb q.b j ≤ now - bg) :
    v24 q.k q.a q.b q.c q.room q.ls q.v0 q.v1 q.v2 q.v3 q.v4 q.v5 q.v6 q.v7 q.seed x15 true x17 x18 now took x21 x22 x23 x24 x25 x26 x27 mk (m : Int) x30 x31 x32 x33 x34 x35 x36 x37 x38 x39 x40 x41 x42 x43 x44 bg0 (h : Int) = some (cond (decide (m ≥ (w :: l).length) || decide (now - ((w :: l).getD m (PKz, (0 : Int))).2 < q.a)) (true, -1, 0) (true, bg, ((h + (m + (took && mk).toNat) : Nat) : Int))) := by
  have hbr : 0 ≤ bg ∧ bg ≤ 10000000 := by omega
  have e : (q.ls.getD (Int.toNat (0 : Int)) []) = w :: l := hw
  have e0 : (((w :: l).length : Int) == (0 : Int)) = false := by simp only [List.length_cons, beq_eq_false_iff_ne]; omega
  have e1 : decide ((0 : Int) < ((w :: l).length : Int)) = true := decide_eq_true (by simp only [List.length_cons]; omega)
  have e2 : (w :: l).getD (Int.toNat (0 : Int)) (PKz, (0 : Int)) = w := rfl
  have ew : IntKind.wrap IntKind.i64 (now - w.2) = now - w.2 := by have := hat w (by rw [hw]; exact List.mem_cons_self ..); exact wrap_id (by omega) (by omega)
  have eu : IntKind.wrap IntKind.i64 ((m : Int) + 1) = ((m + 1 : Nat) : Int) := up1 (by omega)
  have em : IntKind.wrap IntKind.i64 (now - ((w :: l).getD m (PKz, (0 : Int))).2) = now - ((w :: l).getD m (PKz, (0 : Int))).2 := by
    by_cases c : m < (w :: l).length
    · have := hat ((w :: l).getD m (PKz, (0 : Int))) (by
        rw [hw, List.getD_eq_getElem?_getD, List.getElem?_eq_getElem c]; exact List.getElem_mem c)
      exact wrap_id (by omega) (by omega)
    · have : ((w :: l).getD m (PKz, (0 : Int))).2 = 0 := by
        rw [List.getD_eq_getElem?_getD, List.getElem?_eq_none (by omega)]; rfl
      exact wrap_id (by omega) (by omega)
  have el : ((m : Int) ≥ ((w :: l).length : Int)) = (m ≥ (w :: l).length) := by apply propext; omega
  have fin : ∀ (r : Nat), (cond (decide ((m : Int) ≥ ((w :: l).length : Int))) (some (true, (-1 : Int), (0 : Int))) (cond (decide ((0 : Int) ≤ (m : Int))) (cond (decide ((m : Int) < ((w :: l).length : Int))) (cond (decide (now - ((w :: l).getD m (PKz, (0 : Int))).2 < q.a)) (some (true, (-1 : Int), (0 : Int))) (some (true, bg, (r : Int)))) none) none)) =
      some (cond (decide (m ≥ (w :: l).length) || decide (now - ((w :: l).getD m (PKz, (0 : Int))).2 < q.a)) (true, -1, 0) (true, bg, (r : Int))) := by
    intro r
    by_cases c : m ≥ (w :: l).length
    · rw [decide_eq_true (show (m : Int) ≥ ((w :: l).length : Int) by omega), decide_eq_true c]; rfl
    · rw [decide_eq_false (show ¬ (m : Int) ≥ ((w :: l).length : Int) by omega), decide_eq_false c, decide_eq_true (show (0 : Int) ≤ (m : Int) by omega), decide_eq_true (show (m : Int) < ((w :: l).length : Int) by omega)]
      cases decide (now - ((w :: l).getD m (PKz, (0 : Int))).2 < q.a) <;> rfl
  have lp : ∀ (mm : Nat), mm ≤ m + (took && mk).toNat → L24_0_0 FU now (m : Int) (mm : Int) 0 q.k q.a q.b q.c q.room q.ls q.v0 q.v1 q.v2 q.v3 q.v4 q.v5 q.v6 q.v7 q.seed bg (h : Int) = some (.inr ((h + mm : Nat) : Int)) := fun mm hmm => by
    have ht : (took && mk).toNat ≤ 1 := by cases took <;> cases mk <;> decide
    exact l24_0 q now bg (m : Int) hb hn hbr mm mm FU 0 h (by omega) (by show mm < 18446744073709551616; omega) (by omega) (by omega) (fun j h1 h2 => hS j h1 (by omega))
  unfold v24
  rw [e, h1, e2, ew, Int.toNat_natCast, em, eu, e0, e1, decide_eq_false hwt]
  have z1 : (((1 : Nat) : Int) != (1 : Int)) = false := rfl
  have z2 : decide ((0 : Int) < ((1 : Nat) : Int)) = true := rfl
  rw [z1, z2]
  simp only [Bool.not_true, cond_false, cond_true]
  rcases hbg with ⟨hb0, rfl⟩ | ⟨hb0, rfl, hle⟩
  · rw [decide_eq_true hb0]
    simp only [cond_true]
    cases took with
    | false =>
      rw [lp m (by omega)]
      simp only [cond_false, isL_inr, getR_inr, ok_some, val_some, cond_true]
      rw [fin]
      simp
    | true =>
      cases mk with
      | false =>
        rw [lp m (by omega)]
        simp only [cond_false, isL_inr, getR_inr, ok_some, val_some, cond_true]
        rw [fin]
        simp
      | true =>
        rw [lp (m + 1) (by show m + 1 ≤ m + 1; omega)]
        simp only [cond_false, isL_inr, getR_inr, ok_some, val_some, cond_true]
        rw [fin]
        rfl
  · rw [decide_eq_false (show ¬ bg < 0 by omega)]
    simp only [cond_false]
    cases took with
    | false =>
      rw [lp m (by omega)]
      simp only [cond_false, isL_inr, getR_inr, ok_some, val_some, cond_true]
      rw [fin]
      simp
    | true =>
      cases mk with
      | false =>
        rw [lp m (by omega)]
        simp only [cond_false, isL_inr, getR_inr, ok_some, val_some, cond_true]
        rw [fin]
        simp
      | true =>
        rw [lp (m + 1) (by show m + 1 ≤ m + 1; omega)]
        simp only [cond_false, isL_inr, getR_inr, ok_some, val_some, cond_true]
        rw [fin]
        rfl
theorem tkE_cons (a b now : Int) (w : QD) (r : List QD) (v0 v1 : Int) (d : List PK) : tkE a b now (w :: r) v0 v1 d = cond ((hitS a b now v0 v1 (now - w.2)).1 && !w.1.2.2.2.2.2.2.1) (tkE a b now r (hitS a b now v0 v1 (now - w.2)).2.1 (hitS a b now v0 v1 (now - w.2)).2.2 (d ++ [w.1]))
      (.inl (true, 0, (hitS a b now v0 v1 (now - w.2)).2.1, (hitS a b now v0 v1 (now - w.2)).2.2, w.1.1, w.1.2.1, w.1.2.2.1, w.1.2.2.2.1, w.1.2.2.2.2.1, w.1.2.2.2.2.2.1, w.1.2.2.2.2.2.2.1, w.1.2.2.2.2.2.2.2 || (hitS a b now v0 v1 (now - w.2)).1, d, (w :: r).length - 1, w :: r)) := by rw [tkE]
def tkR (a b now bg : Int) (l : List QD) (h : Nat) (d : List PK) : Prop :=
  (∃ (pre : List QD) (w : QD) (rest : List QD) (v0 v1 : Int) (hit : Bool), l = pre ++ w :: rest ∧ tkE a b now l (bg + Sb b (h + 1) + 1) (h : Int) d = .inl (true, 0, v0, v1, w.1.1, w.1.2.1, w.1.2.2.1, w.1.2.2.2.1, w.1.2.2.2.2.1, w.1.2.2.2.2.2.1, w.1.2.2.2.2.2.2.1, hit, d ++ pre.map (·.1), (w :: rest).length - 1, w :: rest) ∧
    (∀ j, h < j → j ≤ h + (pre.length + hit.toNat) → Sb b j ≤ now - bg) ∧ ((now - w.2 < a ∧ v0 = 0 ∧ v1 = 0 ∧ hit = false) ∨ (¬ now - w.2 < a ∧ v0 = bg + Sb b (h + (pre.length + hit.toNat) + 1) + 1 ∧ v1 = ((h + (pre.length + hit.toNat) : Nat) : Int)))) ∨
  (∃ r, tkE a b now l (bg + Sb b (h + 1) + 1) (h : Int) d = .inr r ∧ r.2.2.1 = [] ∧ r.2.2.2 = d ++ l.map (·.1) ∧ (∀ j, h < j → j ≤ h + l.length → Sb b j ≤ now - bg))
theorem tk_pat {a b now bg : Int} (hb : 1 ≤ b ∧ b ≤ 1000000) (hbg : 0 ≤ bg) : ∀ (l : List QD) (h : Nat) (d : List PK), h + l.length ≤ 1000 → (∀ w ∈ l, w.1.2.2.2.2.2.2.2 = false) → tkR a b now bg l h d
  | [], h, d, _, _ => .inr ⟨_, by rw [tkE], rfl, by simp, fun j h1 h2 => by simp only [List.length_nil] at h2; omega⟩
  | w :: l, h, d, hl, hm => by
    have hmw := hm w (List.mem_cons_self ..)
    have hl' : h + (l.length + 1) ≤ 1000 := hl
    have s1 := Sb_bd hb (h + 1)
    have e2 : Sb b (h + 2) = Sb b (h + 1) + max 1 (Int.tdiv b (((h + 1 : Nat) : Int) + 1)) := rfl
    by_cases c1 : now - w.2 < a
    · have hh : hitS a b now (bg + Sb b (h + 1) + 1) (h : Int) (now - w.2) = (false, 0, 0) := by unfold hitS; rw [decide_eq_true c1]; rfl
      refine .inl ⟨[], w, l, 0, 0, false, rfl, ?_, fun j h1 h2 => ?_, .inl ⟨c1, rfl, rfl, rfl⟩⟩
      · rw [tkE_cons, hh, hmw]; simp
      · simp only [List.length_nil, Bool.toNat_false] at h2; omega
    by_cases c3 : now ≥ bg + Sb b (h + 1) + 1 - 1
    · have hh : hitS a b now (bg + Sb b (h + 1) + 1) (h : Int) (now - w.2) = (true, bg + Sb b (h + 2) + 1, ((h + 1 : Nat) : Int)) := by
        unfold hitS
        rw [decide_eq_false c1, decide_eq_false (show ¬ bg + Sb b (h + 1) + 1 = 0 by omega), decide_eq_true c3]
        simp only [cond_true, cond_false]
        rw [show min (1000000000 : Int) ((h : Int) + 1) = ((h + 1 : Nat) : Int) by omega, e2]
        simp only [Prod.mk.injEq, true_and, and_true]
        omega
      cases ha : w.1.2.2.2.2.2.2.1 with
      | true =>
        refine .inl ⟨[], w, l, bg + Sb b (h + 2) + 1, ((h + 1 : Nat) : Int), true, rfl, ?_, fun j h1 h2 => ?_, .inr ⟨c1, ?_, ?_⟩⟩
        · rw [tkE_cons, hh, hmw, ha]; simp
        · simp only [List.length_nil, Bool.toNat_true] at h2
          rw [show j = h + 1 by omega]; omega
        · rfl
        · rfl
      | false =>
        have ih := tk_pat (a := a) (now := now) hb hbg l (h + 1) (d ++ [w.1]) (by omega) (fun w' hw' => hm w' (List.mem_cons_of_mem _ hw'))
        have e : tkE a b now (w :: l) (bg + Sb b (h + 1) + 1) (h : Int) d = tkE a b now l (bg + Sb b (h + 1 + 1) + 1) ((h + 1 : Nat) : Int) (d ++ [w.1]) := by
          rw [tkE_cons, hh, ha]; rfl
        rcases ih with ⟨pre, w', rest, v0, v1, hit, g1, g2, g3, g4⟩ | ⟨r, g1, g2, g3, g4⟩
        · have el : h + 1 + (pre.length + hit.toNat) = h + ((w :: pre).length + hit.toNat) := by simp only [List.length_cons]; omega
          refine .inl ⟨w :: pre, w', rest, v0, v1, hit, by rw [g1]; rfl, ?_, fun j h1 h2 => ?_, ?_⟩
          · rw [e, g2]; simp
          · by_cases hj : j = h + 1
            · rw [hj]; omega
            · exact g3 j (by omega) (by omega)
          · rw [← el]; exact g4
        · refine .inr ⟨r, by rw [e, g1], g2, by rw [g3]; simp, fun j h1 h2 => ?_⟩
          by_cases hj : j = h + 1
          · rw [hj]; omega
          · exact g4 j (by omega) (by simp only [List.length_cons] at h2; omega)
    · have hh : hitS a b now (bg + Sb b (h + 1) + 1) (h : Int) (now - w.2) = (false, bg + Sb b (h + 1) + 1, (h : Int)) := by
        unfold hitS
        rw [decide_eq_false c1, decide_eq_false (show ¬ bg + Sb b (h + 1) + 1 = 0 by omega), decide_eq_false c3]
        rfl
      refine .inl ⟨[], w, l, bg + Sb b (h + 1) + 1, (h : Int), false, rfl, ?_, fun j h1 h2 => ?_, .inr ⟨c1, rfl, rfl⟩⟩
      · rw [tkE_cons, hh, hmw]; simp
      · simp only [List.length_nil, Bool.toNat_false] at h2; omega
theorem lst_suf {hi : Int} : ∀ {pre : List QD} {w : QD} {rest : List QD} {last : Int}, 0 ≤ last → lst hi last (pre ++ w :: rest) = true → lst hi 0 rest = true
  | [], w, rest, last, h0, h => by
    obtain ⟨_, b, c⟩ := lst_cons.1 h
    exact lst_low (by omega) c
  | v :: pre, w, rest, last, h0, h => by
    obtain ⟨_, b, c⟩ := lst_cons.1 h
    exact lst_suf (by omega) c
def Inv (N : Nat) (q : Qu) (bg ht : Int) : Prop := (q.v0 = 0 ∧ q.v1 = 0 ∧ bg = -1 ∧ ht = 0) ∨ ∃ h : Nat, ht = (h : Int) ∧ q.v1 = (h : Int) ∧ q.v0 = bg + Sb q.b (h + 1) + 1 ∧ 0 ≤ bg ∧ bg ≤ q.v7 ∧ h + (first q).length ≤ N
def StepR (N : Nat) (q : Qu) (now bg ht : Int) : Prop := ∃ (rest : List QD) (v0 v1 : Int) (p : PK) (took : Bool) (drops : List PK) (bg' ht' : Int),
  v14 q.k q.a q.b q.c q.room q.ls q.v0 q.v1 q.v2 q.v3 q.v4 q.v5 q.v6 q.v7 q.seed now = some (q.k, q.a, q.b, q.c, q.room, [rest], v0, v1, q.v2, q.v3, q.v4, q.v5, q.v6, now, q.seed, p.1, p.2.1, p.2.2.1, p.2.2.2.1, p.2.2.2.2.1, p.2.2.2.2.2.1, p.2.2.2.2.2.2.1, p.2.2.2.2.2.2.2, took, drops, 0) ∧
  (∀ (x15 x17 : Int) (x18 : Bool) (x30 x31 x32 x33 x34 : Int) (x35 : List (List QD)) (x36 x37 x38 x39 x40 x41 x42 x43 x44 : Int), v24 q.k q.a q.b q.c q.room q.ls q.v0 q.v1 q.v2 q.v3 q.v4 q.v5 q.v6 q.v7 q.seed x15 true x17 x18 now took p.1 p.2.1 p.2.2.1 p.2.2.2.1 p.2.2.2.2.1 p.2.2.2.2.2.1 p.2.2.2.2.2.2.1 p.2.2.2.2.2.2.2 (drops.length : Int) x30 x31 x32 x33 x34 x35 x36 x37 x38 x39 x40 x41 x42 x43 x44 bg ht = some (true, bg', ht')) ∧
  Vd { q with ls := [rest], v0 := v0, v1 := v1, v7 := now } ∧ Inv N { q with ls := [rest], v0 := v0, v1 := v1, v7 := now } bg' ht' ∧ (∀ w ∈ rest, w ∈ first q) ∧ drops.length + rest.length ≤ (first q).length
theorem v14_calm (q : Qu) (now : Int) (w : QD) (l : List QD) (hv : Vd q) (h0 : 0 ≤ now) (h1 : now ≤ 10000000) (h7 : q.v7 ≤ now) (hw : first q = w :: l) (hm : w.1.2.2.2.2.2.2.2 = false) (v0 v1 : Int) (hh : hitS q.a q.b now q.v0 q.v1 (now - w.2) = (false, v0, v1)) : v14 q.k q.a q.b q.c q.room q.ls q.v0 q.v1 q.v2 q.v3 q.v4 q.v5 q.v6 q.v7 q.seed now =
    some (q.k, q.a, q.b, q.c, q.room, [l], v0, v1, q.v2, q.v3, q.v4, q.v5, q.v6, now, q.seed, w.1.1, w.1.2.1, w.1.2.2.1, w.1.2.2.2.1, w.1.2.2.2.2.1, w.1.2.2.2.2.2.1, w.1.2.2.2.2.2.2.1, false, true, [], 0) := by
  rcases v14_ok q now (len_ok hv) (opn_of hv h0 h1 h7) with ⟨r, hr, e⟩ | ⟨r, hr, e⟩
  · rw [hw, tkE_cons, hh, Bool.false_and, cond_false] at hr
    cases hr
    rw [e, hm]
    simp only [List.length_cons, Nat.add_sub_cancel, List.drop_succ_cons, List.drop_zero, List.take_length, Bool.or_false]
  · rw [hw, tkE_cons, hh, Bool.false_and, cond_false] at hr
    cases hr
theorem step_take (N : Nat) (hN : N ≤ 150) (q : Qu) (now bg ht : Int) (hv : Vd q) (h0 : 0 ≤ now) (h1 : now ≤ 10000000) (h7 : q.v7 ≤ now) (hm : ∀ w ∈ first q, w.1.2.2.2.2.2.2.2 = false) (hl : (first q).length ≤ N) (hi : Inv N q bg ht) : StepR N q now bg ht := by
  have h7' := hv.v7
  have hb := hv.b
  have hat : ∀ w ∈ first q, 0 ≤ w.2 ∧ w.2 ≤ 10000000 := fun w hw => by have := lst_at (Int.le_refl 0) hv.lst w hw; omega
  cases hw : first q with
  | nil =>
    exact ⟨[], 0, 0, (0, 0, 0, 0, 0, 0, false, false), false, [], -1, 0, v14_none q now hv h0 h1 h7 hw, fun x15 x17 x18 x30 x31 x32 x33 x34 x35 x36 x37 x38 x39 x40 x41 x42 x43 x44 => v24_calm q x15 x17 x18 now false 0 0 0 0 0 0 false false x30 x31 x32 x33 x34 x35 x36 x37 x38 x39 x40 x41 x42 x43 x44 bg ht hv.one (.inl rfl) (.inl hw), vd_none hv h1 h7, .inl ⟨rfl, rfl, rfl, rfl⟩, fun w h => (by cases h), Nat.zero_le _⟩
  | cons w l =>
    have hmw := hm w (by rw [hw]; exact List.mem_cons_self ..)
    have haw := hat w (by rw [hw]; exact List.mem_cons_self ..)
    have hll : l.length + 1 ≤ N := by rw [hw] at hl; exact hl
    have sub : ∀ v ∈ l, v ∈ w :: l := fun v h => List.mem_cons_of_mem _ h
    by_cases c1 : now - w.2 < q.a
    · have hh : hitS q.a q.b now q.v0 q.v1 (now - w.2) = (false, 0, 0) := by unfold hitS; rw [decide_eq_true c1]; rfl
      have hvd := vd_take (wait := now - w.2) hv h1 h7 hw
      rw [hh] at hvd
      exact ⟨l, 0, 0, (w.1.1, w.1.2.1, w.1.2.2.1, w.1.2.2.2.1, w.1.2.2.2.2.1, w.1.2.2.2.2.2.1, w.1.2.2.2.2.2.2.1, false), true, [], -1, 0, v14_calm q now w l hv h0 h1 h7 hw hmw 0 0 hh,
        fun x15 x17 x18 x30 x31 x32 x33 x34 x35 x36 x37 x38 x39 x40 x41 x42 x43 x44 => v24_calm q x15 x17 x18 now true w.1.1 w.1.2.1 w.1.2.2.1 w.1.2.2.2.1 w.1.2.2.2.2.1 w.1.2.2.2.2.2.1 w.1.2.2.2.2.2.2.1 false x30 x31 x32 x33 x34 x35 x36 x37 x38 x39 x40 x41 x42 x43 x44 bg ht hv.one (.inr rfl) (.inr ⟨w, l, hw, c1, wrap_id (by omega) (by omega)⟩), hvd, .inl ⟨rfl, rfl, rfl, rfl⟩, fun v h => by rw [hw]; exact sub v h, by rw [hw]; simp⟩
    rcases hi with ⟨i1, i2, i3, i4⟩ | ⟨h, i1, i2, i3, i4, i5, i6⟩
    · have hh : hitS q.a q.b now q.v0 q.v1 (now - w.2) = (false, now + q.b + 1, 0) := by unfold hitS; rw [decide_eq_false c1, decide_eq_true i1, i2]; rfl
      have hvd := vd_take (wait := now - w.2) hv h1 h7 hw
      rw [hh] at hvd
      refine ⟨l, now + q.b + 1, 0, (w.1.1, w.1.2.1, w.1.2.2.1, w.1.2.2.2.1, w.1.2.2.2.2.1, w.1.2.2.2.2.2.1, w.1.2.2.2.2.2.2.1, false), true, [], now, 0, v14_calm q now w l hv h0 h1 h7 hw hmw _ _ hh,
        fun x15 x17 x18 x30 x31 x32 x33 x34 x35 x36 x37 x38 x39 x40 x41 x42 x43 x44 => ?_, hvd, .inr ⟨0, rfl, rfl, ?_, h0, Int.le_refl _, by show 0 + l.length ≤ N; omega⟩, fun v h => by rw [hw]; exact sub v h, by rw [hw]; simp⟩
      · have e := v24_late q x15 x17 x18 now true w.1.1 w.1.2.1 w.1.2.2.1 w.1.2.2.2.1 w.1.2.2.2.2.1 w.1.2.2.2.2.2.1 w.1.2.2.2.2.2.2.1 false 0 x30 x31 x32 x33 x34 x35 x36 x37 x38 x39 x40 x41 x42 x43 x44 bg now 0 w l hv.one hw c1 hat hb ⟨h0, h1⟩ (.inl ⟨by omega, rfl⟩) (by omega) (fun j j1 j2 => by simp only [Bool.and_false, Bool.toNat_false] at j2; omega)
        rw [i4]
        refine e.trans ?_
        have e2 : (w :: l).getD 0 (PKz, (0 : Int)) = w := rfl
        rw [e2, decide_eq_false c1, decide_eq_false (show ¬ 0 ≥ (w :: l).length by simp)]
        rfl
      · show now + q.b + 1 = now + Sb q.b (0 + 1) + 1
        have : Sb q.b (0 + 1) = 0 + max 1 (Int.tdiv q.b (((0 : Nat) : Int) + 1)) := rfl
        rw [this, show ((0 : Nat) : Int) + 1 = 1 from rfl, Int.tdiv_one]
        omega
    · have hk := tk_pat (a := q.a) (now := now) hb i4 (w :: l) h [] (by rw [hw] at i6; omega) (fun v hv' => hm v (by rw [hw]; exact hv'))
      have i6' : h + (l.length + 1) ≤ N := by rw [hw] at i6; exact i6
      rcases hk with ⟨pre, w', rest, v0, v1, hit, g1, g2, g3, g4⟩ | ⟨r', g1, g2, g3, g4⟩
      · have gl : pre.length + (rest.length + 1) = l.length + 1 := by have := congrArg List.length g1; simp only [List.length_cons, List.length_append] at this; omega
        have get : (w :: l).getD pre.length (PKz, (0 : Int)) = w' := by
          rw [g1, List.getD_eq_getElem?_getD, List.getElem?_append_right (Nat.le_refl _), Nat.sub_self]; rfl
        have ev : v14 q.k q.a q.b q.c q.room q.ls q.v0 q.v1 q.v2 q.v3 q.v4 q.v5 q.v6 q.v7 q.seed now = some (q.k, q.a, q.b, q.c, q.room, [rest], v0, v1, q.v2, q.v3, q.v4, q.v5, q.v6, now, q.seed, w'.1.1, w'.1.2.1, w'.1.2.2.1, w'.1.2.2.2.1, w'.1.2.2.2.2.1, w'.1.2.2.2.2.2.1, w'.1.2.2.2.2.2.2.1, hit, true, pre.map (·.1), 0) := by
          rcases v14_ok q now (len_ok hv) (opn_of hv h0 h1 h7) with ⟨r, hr, e⟩ | ⟨r, hr, e⟩
          · rw [hw, i3, i2, g2] at hr
            cases hr
            rw [e]
            simp only [List.length_cons, Nat.add_sub_cancel, List.drop_succ_cons, List.drop_zero, List.take_length, List.nil_append]
          · rw [hw, i3, i2, g2] at hr
            cases hr
        have hS := Sb_bd hb
        have ht1 : hit.toNat ≤ 1 := by cases hit <;> decide
        have num : (0 ≤ v0 ∧ v0 ≤ now + q.b + 1) ∧ (0 ≤ v1 ∧ v1 ≤ 1000000000) ∧ (v0 = 0 → v1 = 0) := by
          rcases g4 with ⟨_, rfl, rfl, _⟩ | ⟨_, rfl, rfl⟩
          · exact ⟨⟨Int.le_refl _, by omega⟩, ⟨Int.le_refl _, by omega⟩, fun _ => rfl⟩
          · have hq := hv.v0
            have s0 := hS (h + (pre.length + hit.toNat) + 1)
            have e1 : Sb q.b (h + (pre.length + hit.toNat) + 1) = Sb q.b (h + (pre.length + hit.toNat)) + max 1 (Int.tdiv q.b (((h + (pre.length + hit.toNat) : Nat) : Int) + 1)) := rfl
            have d1 := dv (k := ((h + (pre.length + hit.toNat) : Nat) : Int) + 1) hb (by omega)
            refine ⟨⟨by omega, ?_⟩, ⟨by omega, by omega⟩, fun hz => by omega⟩
            by_cases hz : pre.length + hit.toNat = 0
            · rw [hz, Nat.add_zero]
              omega
            · have := g3 (h + (pre.length + hit.toNat)) (by omega) (Nat.le_refl _)
              omega
        have hx := hv.lst
        rw [hw, g1] at hx
        have hvd : Vd { q with ls := [rest], v0 := v0, v1 := v1, v7 := now } := ⟨hv.k, hv.a, hv.b, hv.c, hv.room, rfl, hv.seed, ⟨h0, h1⟩, num.1, num.2.1, num.2.2,
          by
            show (rest.length : Int) ≤ q.room
            have := hv.len
            rw [hw] at this
            simp only [List.length_cons] at this
            omega, hv.v2, hv.v3, hv.v4, hv.v5, hv.v6, lst_mono h7 (lst_suf (Int.le_refl _) hx)⟩
        have e24 := fun x15 x17 x18 x30 x31 x32 x33 x34 x35 x36 x37 x38 x39 x40 x41 x42 x43 x44 => v24_late q x15 x17 x18 now true w'.1.1 w'.1.2.1 w'.1.2.2.1 w'.1.2.2.2.1 w'.1.2.2.2.2.1 w'.1.2.2.2.2.2.1 w'.1.2.2.2.2.2.2.1 hit pre.length x30 x31 x32 x33 x34 x35 x36 x37 x38 x39 x40 x41 x42 x43 x44 bg bg h w l hv.one hw c1 hat hb ⟨h0, h1⟩ (.inr ⟨i4, rfl, by omega⟩) (by omega) (fun j j1 j2 => g3 j j1 (by rw [Bool.true_and] at j2; exact j2))
        rw [get, decide_eq_false (show ¬ pre.length ≥ (w :: l).length by simp only [List.length_cons]; omega), Bool.false_or, Bool.true_and] at e24
        have hmem : ∀ v ∈ rest, v ∈ first q := fun v h' => by rw [hw, g1]; exact List.mem_append_right _ (List.mem_cons_of_mem _ h')
        have hlen : (pre.map (·.1)).length + rest.length ≤ (first q).length := by rw [hw, List.length_map]; simp only [List.length_cons]; omega
        rcases g4 with ⟨k1, rfl, rfl, rfl⟩ | ⟨k1, k2, k3⟩
        · rw [decide_eq_true k1] at e24
          exact ⟨rest, 0, 0, (w'.1.1, w'.1.2.1, w'.1.2.2.1, w'.1.2.2.2.1, w'.1.2.2.2.2.1, w'.1.2.2.2.2.2.1, w'.1.2.2.2.2.2.2.1, false), true, pre.map (·.1), -1, 0, ev, fun x15 x17 x18 x30 x31 x32 x33 x34 x35 x36 x37 x38 x39 x40 x41 x42 x43 x44 => by rw [i1, List.length_map]; exact e24 x15 x17 x18 x30 x31 x32 x33 x34 x35 x36 x37 x38 x39 x40 x41 x42 x43 x44, hvd, .inl ⟨rfl, rfl, rfl, rfl⟩, hmem, hlen⟩
        · rw [decide_eq_false k1] at e24
          exact ⟨rest, v0, v1, (w'.1.1, w'.1.2.1, w'.1.2.2.1, w'.1.2.2.2.1, w'.1.2.2.2.2.1, w'.1.2.2.2.2.2.1, w'.1.2.2.2.2.2.2.1, hit), true, pre.map (·.1), bg, ((h + (pre.length + hit.toNat) : Nat) : Int), ev, fun x15 x17 x18 x30 x31 x32 x33 x34 x35 x36 x37 x38 x39 x40 x41 x42 x43 x44 => by rw [i1, List.length_map]; exact e24 x15 x17 x18 x30 x31 x32 x33 x34 x35 x36 x37 x38 x39 x40 x41 x42 x43 x44, hvd,
            .inr ⟨h + (pre.length + hit.toNat), rfl, k3, k2, i4, by show bg ≤ now; omega, by show h + (pre.length + hit.toNat) + rest.length ≤ N; omega⟩, hmem, hlen⟩
      · have ev : v14 q.k q.a q.b q.c q.room q.ls q.v0 q.v1 q.v2 q.v3 q.v4 q.v5 q.v6 q.v7 q.seed now = some (q.k, q.a, q.b, q.c, q.room, [[]], 0, 0, q.v2, q.v3, q.v4, q.v5, q.v6, now, q.seed, 0, 0, 0, 0, 0, 0, false, false, false, (w :: l).map (·.1), 0) := by
          rcases v14_ok q now (len_ok hv) (opn_of hv h0 h1 h7) with ⟨r, hr, e⟩ | ⟨r, hr, e⟩
          · rw [hw, i3, i2, g1] at hr
            cases hr
          · rw [hw, i3, i2, g1] at hr
            cases hr
            rw [e, g2, g3, List.nil_append]
        refine ⟨[], 0, 0, (0, 0, 0, 0, 0, 0, false, false), false, (w :: l).map (·.1), -1, 0, ev, fun x15 x17 x18 x30 x31 x32 x33 x34 x35 x36 x37 x38 x39 x40 x41 x42 x43 x44 => ?_, vd_none hv h1 h7, .inl ⟨rfl, rfl, rfl, rfl⟩, fun v h => (by cases h), by rw [hw, List.length_map]; exact Nat.le_refl _⟩
        rw [i1, List.length_map]
        refine (v24_late q x15 x17 x18 now false 0 0 0 0 0 0 false false (w :: l).length x30 x31 x32 x33 x34 x35 x36 x37 x38 x39 x40 x41 x42 x43 x44 bg bg h w l hv.one hw c1 hat hb ⟨h0, h1⟩ (.inr ⟨i4, rfl, by omega⟩) (by simp only [List.length_cons]; omega) (fun j j1 j2 => g4 j j1 (by rw [Bool.false_and] at j2; exact j2))).trans ?_
        rw [decide_eq_true (Nat.le_refl _)]
        rfl
abbrev ST := Int × Bool × Int × Bool
abbrev DS : ST := (0, false, 0, false)
def okS (s : ST) : Prop := (0 ≤ s.1 ∧ s.1 ≤ 65535) ∧ (0 ≤ s.2.2.1 ∧ s.2.2.1 ≤ 255)
theorem ex_cond {α β : Type} {p : Prop} {inst : Decidable p} {a b : Option (α ⊕ β)} (h : p) (k : ∃ z, a = some (.inr z)) : ∃ z, cond (@decide p inst) a b = some (.inr z) := by rw [decide_eq_true h]; exact k
theorem inv_put {N : Nat} {q : Qu} {bg ht now : Int} {ls : List (List QD)} (hi : Inv N q bg ht) (h7 : q.v7 ≤ now) (hl : (ls.getD 0 []).length ≤ (first q).length + 1) : Inv (N + 1) { q with ls := ls, v7 := now } bg ht := by
  rcases hi with ⟨i1, i2, i3, i4⟩ | ⟨h, i1, i2, i3, i4, i5, i6⟩
  · exact .inl ⟨i1, i2, i3, i4⟩
  · exact .inr ⟨h, i1, i2, i3, i4, by show bg ≤ now; omega, by show h + (ls.getD 0 []).length ≤ N + 1; omega⟩
theorem inv_up {N : Nat} {q : Qu} {bg ht : Int} (hi : Inv N q bg ht) : Inv (N + 1) q bg ht := by
  rcases hi with h | ⟨h, i1, i2, i3, i4, i5, i6⟩
  · exact .inl h
  · exact .inr ⟨h, i1, i2, i3, i4, i5, by omega⟩
theorem l20 (steps : List ST) (hl : steps.length ≤ 150) (hs : ∀ j, j < steps.length → okS (steps.getD j DS)) (c4 c5 c6 c7 c8 c9 c10 c11 c12 c13 c14 c15 c16 c17 : Int) (c38 : List (List QD)) (c39 c40 c41 : List PK) :
    ∀ (k n i : Nat) (q : Qu) (now bg ht : Int) (cm tk dr : List PK), i + k = steps.length → k < n → Vd q → (∀ w ∈ first q, w.1.2.2.2.2.2.2.2 = false) → (0 ≤ now ∧ now ≤ 65535 * (i : Int)) → q.v7 ≤ now → cm.length ≤ i → tk.length ≤ i → dr.length + (first q).length ≤ i → Inv i q bg ht →
    ∃ z, L20_0_0 n now steps (steps.length : Int) (i : Int) c4 c5 c6 c7 c8 c9 c10 c11 c12 c13 c14 c15 c16 c17 q.k q.a q.b q.c q.room q.ls q.v0 q.v1 q.v2 q.v3 q.v4 q.v5 q.v6 q.v7 q.seed bg ht cm tk dr c38 c39 c40 c41 = some (.inr z) := by
  intro k
  induction k with
  | zero =>
    intro n i q now bg ht cm tk dr hk hkn hv hab hn h7 h1 h2 h3 hi0
    cases n with
    | zero => omega
    | succ n =>
    rw [qL20_0_0, decide_eq_false (show ¬ (i : Int) < (steps.length : Int) by omega)]
    exact ⟨_, rfl⟩
  | succ k ih0 =>
    intro n i q now bg ht cm tk dr hk hkn hv hab hn h7 h1 h2 h3 hi0
    cases n with
    | zero => omega
    | succ n =>
    have ih := ih0 n (i + 1)
    clear ih0
    have hi : i < steps.length := by omega
    obtain ⟨⟨s1, s2⟩, s3, s4⟩ := hs i hi
    obtain ⟨s, es⟩ : ∃ s, steps.getD i DS = s := ⟨_, rfl⟩
    rw [es] at s1 s2 s3 s4
    have w1 : IntKind.wrap IntKind.i64 s.1 = s.1 := wrap_id (by omega) (by omega)
    have w2 : IntKind.wrap IntKind.i64 (now + s.1) = now + s.1 := wrap_id (by omega) (by omega)
    have w3 : IntKind.wrap IntKind.i64 s.2.2.1 = s.2.2.1 := wrap_id (by omega) (by omega)
    have w4 : IntKind.wrap IntKind.i64 (1 + s.2.2.1) = 1 + s.2.2.1 := wrap_id (by omega) (by omega)
    have es' : steps.getD i ((0 : Int), false, (0 : Int), false) = s := es
    have u1 : IntKind.wrap IntKind.i64 ((i : Int) + 1) = ((i + 1 : Nat) : Int) := up1 (by omega)
    have m1 : now + s.1 ≤ 10000000 := by omega
    have m7 : q.v7 ≤ now + s.1 := by omega
    have m0 : 0 ≤ now + s.1 := by omega
    have z0 : ((0 : Int) != (0 : Int)) = false := rfl
    rw [qL20_0_0, decide_eq_true (show (i : Int) < (steps.length : Int) by omega), decide_eq_true (show (0 : Int) ≤ (i : Int) by omega)]
    simp only [aL0, aL1, cond_true, Int.toNat_natCast, es', w1, w2, w3, w4, u1]
    cases hst : s.2.1 with
    | true =>
      obtain ⟨rest, v0, v1, p, took, drops, bg', ht', ev, ea, k1, k2, k3, k4⟩ := step_take i (by omega) q (now + s.1) bg ht hv m0 m1 m7 hab (by omega) hi0
      rw [ev]
      simp only [ok_some, val_some, cond_true, cond_false, z0]
      rw [ea]
      simp only [ok_some, val_some, cond_true, cond_false, Bool.not_true]
      have k5 : ∀ w ∈ rest, w.1.2.2.2.2.2.2.2 = false := fun w hw => hab w (k3 w hw)
      cases took with
      | true =>
        simp only [cond_true]
        refine ex_cond (by show tk.length + 1 ≤ 2147483648; omega) ?_
        refine ex_cond (by show dr.length + drops.length ≤ 2147483648; omega) ?_
        exact ih { q with ls := [rest], v0 := v0, v1 := v1, v7 := now + s.1 } (now + s.1) bg' ht' cm (tk ++ [_]) (dr ++ drops) (by omega) (by omega) k1 k5 ⟨m0, by omega⟩ (Int.le_refl _) (by omega) (by simp; omega) (by show (dr ++ drops).length + rest.length ≤ i + 1; rw [List.length_append]; omega) (inv_up k2)
      | false =>
        simp only [cond_false]
        refine ex_cond (by show dr.length + drops.length ≤ 2147483648; omega) ?_
        exact ih { q with ls := [rest], v0 := v0, v1 := v1, v7 := now + s.1 } (now + s.1) bg' ht' cm tk (dr ++ drops) (by omega) (by omega) k1 k5 ⟨m0, by omega⟩ (Int.le_refl _) (by omega) (by omega) (by show (dr ++ drops).length + rest.length ≤ i + 1; rw [List.length_append]; omega) (inv_up k2)
    | false =>
      have hp : pkOk (0, 0, (i : Int), 0, 1 + s.2.2.1, 0, s.2.2.2, false) = true := decide_eq_true (by
        show (0 ≤ (0 : Int) ∧ (0 : Int) ≤ 7) ∧ (0 ≤ (0 : Int) ∧ (0 : Int) ≤ 3) ∧ (0 ≤ (i : Int) ∧ (i : Int) ≤ 1000000000) ∧ (0 ≤ (0 : Int) ∧ (0 : Int) ≤ 1000000000) ∧ (1 ≤ 1 + s.2.2.1 ∧ 1 + s.2.2.1 ≤ 10000) ∧ (0 ≤ (0 : Int) ∧ (0 : Int) ≤ 10000000)
        omega)
      have e12 := v12_eq q (0, 0, (i : Int), 0, 1 + s.2.2.1, 0, s.2.2.2, false) (now + s.1) (len_ok hv)
      unfold putR at e12
      rw [hp, decide_eq_true (opn_of hv m0 m1 m7)] at e12
      simp only [cond_true] at e12
      simp only [cond_false]
      by_cases hr : ((first q).length : Int) ≥ q.room
      · rw [decide_eq_true hr] at e12
        simp only [cond_true] at e12
        rw [e12]
        simp only [ok_some, val_some, cond_true, cond_false, z0, v24_put, Bool.not_true]
        refine ex_cond (by show cm.length + 1 ≤ 2147483648; omega) ?_
        refine ex_cond (by show dr.length + 1 ≤ 2147483648; omega) ?_
        exact ih { q with ls := [first q], v7 := now + s.1 } (now + s.1) bg ht (cm ++ [_]) tk (dr ++ [_]) (by omega) (by omega) (vd_wait hv m1 m7) (fun w hw => hab w hw) ⟨m0, by omega⟩ (Int.le_refl _) (by simp; omega) (by omega) (by show (dr ++ [_]).length + (first q).length ≤ i + 1; rw [List.length_append]; simp only [List.length_cons, List.length_nil]; omega) (inv_put hi0 m7 (by show (first q).length ≤ _; omega))
      · rw [decide_eq_false hr] at e12
        simp only [cond_false] at e12
        rw [e12]
        simp only [ok_some, val_some, cond_true, cond_false, z0, v24_put, Bool.not_true]
        refine ex_cond (by show cm.length + 1 ≤ 2147483648; omega) ?_
        refine ex_cond (by show dr.length + 0 ≤ 2147483648; omega) ?_
        refine ih { q with ls := [first q ++ [((0, 0, (i : Int), 0, 1 + s.2.2.1, 0, s.2.2.2, false), now + s.1)]], v7 := now + s.1 } (now + s.1) bg ht (cm ++ [_]) tk (dr ++ []) (by omega) (by omega) (vd_put hv m1 m7 hp (by omega)) (fun w hw => ?_) ⟨m0, by omega⟩ (Int.le_refl _) (by simp; omega) (by omega) (by
          show (dr ++ []).length + (first q ++ [_]).length ≤ i + 1
          rw [List.append_nil, List.length_append]; simp only [List.length_cons, List.length_nil]; omega) (inv_put hi0 m7 (by show (first q ++ [_]).length ≤ _; rw [List.length_append]; exact Nat.le_refl _))
        have hw : w ∈ first q ++ [((0, 0, (i : Int), 0, 1 + s.2.2.1, 0, s.2.2.2, false), now + s.1)] := hw
        rcases List.mem_append.1 hw with hw | hw
        · exact hab w hw
        · rw [List.mem_singleton.1 hw]
theorem v6_true (x0 x1 x2 : Int) (l : List ST) (h0 : 0 ≤ x0 ∧ x0 ≤ 65535) (h1 : 0 ≤ x1 ∧ x1 ≤ 65535) (h2 : 0 ≤ x2 ∧ x2 ≤ 255) (hs : ∀ s ∈ l, okS s) : v6 x0 x1 x2 l = some true := by
  unfold v6
  by_cases hl : (l.length : Int) > 150
  · rw [decide_eq_true hl]; rfl
  rw [decide_eq_false hl]
  have hl' : l.length ≤ 150 := by omega
  have key : L6_44_0 x0 x1 x2 l (val v10) (-1) 0 = some true := by
    have h10 : val v10 = true := rfl
    have w0 : IntKind.wrap IntKind.i64 x0 = x0 := wrap_id (by omega) (by omega)
    have w1 : IntKind.wrap IntKind.i64 x1 = x1 := wrap_id (by omega) (by omega)
    have w2 : IntKind.wrap IntKind.i64 x2 = x2 := wrap_id (by omega) (by omega)
    have w3 : IntKind.wrap IntKind.i64 (1 + x1) = 1 + x1 := wrap_id (by omega) (by omega)
    have ht : 0 ≤ Int.tmod x2 20 ∧ Int.tmod x2 20 ≤ 19 := by rw [Int.tmod_eq_emod_of_nonneg (by omega)]; omega
    have w4 : IntKind.wrap IntKind.i64 (1 + Int.tmod x2 20) = 1 + Int.tmod x2 20 := wrap_id (by omega) (by omega)
    have e21 : v21 x0 x1 x2 = some (3, x0, 1 + x1, 0, 1 + Int.tmod x2 20, [[]], 0, 0, 0, 0, 0, 0, 0, 0, 0) := by
      unfold v21 v29
      simp only [w0, w1, w2, w3, w4, val_some]
    have gd : ∀ j, j < l.length → okS (l.getD j DS) := fun j hj => hs _ (by
      rw [List.getD_eq_getElem?_getD, List.getElem?_eq_getElem hj]; exact List.getElem_mem hj)
    obtain ⟨z, hz⟩ := l20 l hl' gd 0 0 0 0 0 0 0 0 0 0 0 0 0 0 [] [] [] [] l.length FU 0 ⟨3, x0, 1 + x1, 0, 1 + Int.tmod x2 20, [[]], 0, 0, 0, 0, 0, 0, 0, 0, 0⟩ 0 (-1) 0 [] [] [] (by omega) (by show l.length < 18446744073709551616; omega)
      ⟨rfl, ⟨h0.1, by show x0 ≤ 1000000; omega⟩, ⟨by show 1 ≤ 1 + x1; omega, by show 1 + x1 ≤ 1000000; omega⟩, rfl, ⟨by show 1 ≤ 1 + Int.tmod x2 20; omega, by show 1 + Int.tmod x2 20 ≤ 500; omega⟩, rfl, rfl, ⟨Int.le_refl _, by show (0 : Int) ≤ 10000000; omega⟩, ⟨Int.le_refl _, by show (0 : Int) ≤ 0 + (1 + x1) + 1; omega⟩, ⟨Int.le_refl _, by show (0 : Int) ≤ 1000000000; omega⟩, fun _ => rfl, by show (0 : Int) ≤ 1 + Int.tmod x2 20; omega, rfl, rfl, rfl, rfl, rfl, rfl⟩
      (fun w hw => by cases hw) ⟨Int.le_refl _, by show (0 : Int) ≤ 65535 * ((0 : Nat) : Int); omega⟩ (Int.le_refl _) (Nat.le_refl _) (Nat.le_refl _) (Nat.le_refl _) (.inl ⟨rfl, rfl, rfl, rfl⟩)
    have hz' : L20_0_0 FU 0 l (l.length : Int) 0 0 0 0 0 0 0 0 0 0 0 0 0 0 0 3 x0 (1 + x1) 0 (1 + Int.tmod x2 20) [[]] 0 0 0 0 0 0 0 0 0 (-1) 0 [] [] [] [] [] [] [] = some (.inr z) := hz
    have e20 : ∃ r, v20 3 x0 (1 + x1) 0 (1 + Int.tmod x2 20) [[]] 0 0 0 0 0 0 0 0 0 l (-1) 0 = some r ∧ r.2.2.2.2.2.2.2.2.2.2.2.2.2.2.2.2.2.2.1 = true := by
      unfold v20
      rw [hz']
      exact ⟨_, rfl, rfl⟩
    obtain ⟨r, er, hr⟩ := e20
    unfold L6_44_0
    rw [h10, e21]
    simp only [val_some, cond_true]
    rw [er]
    simp only [ok_some, val_some, cond_true, hr]
  rw [key]
  rfl
end Go.Proofs.Ythbinbcgjhnijaa
set_option maxRecDepth 100000
namespace Go.Proofs.Ythbinbcgjhnijaa
open Go Go.ChangeShapes Go.WideShapes Go.ChangeAt Go.RowKit Go.AM Go.TM
theorem own0 : ownKnob Try.prog.godebug = none := by kernel_rfl
theorem laid0 : laidOutB Try.prog = true := by kernel_rfl
abbrev taus : List Ty := [.int .u16, .int .u16, .int .u8, .list 50 (.pair (.int .u16) (.pair .bool (.pair (.int .u8) .bool)))]
theorem args0 (x : (Int) × (Int) × (Int) × ((List (Int × (Bool × (Int × Bool))))) × Unit) : argsOf Try.prog Try.f6.params.toList taus x = [.sc (.int .u16 x.1), .sc (.int .u16 x.2.1), .sc (.int .u8 x.2.2.1), .sc (.d 50 (.pair (.int .u16) (.pair .bool (.pair (.int .u8) .bool))) x.2.2.2.1)] := by
  kernel_rfl
theorem law_v (x : (Int) × (Int) × (Int) × ((List (Int × (Bool × (Int × Bool))))) × Unit) (hx : InTup taus x) : v6 x.1 x.2.1 x.2.2.1 x.2.2.2.1 = some true := by
  have h0 : 0 ≤ (show Int from x.1) ∧ (show Int from x.1) ≤ 65535 := hx.1
  have h1 : 0 ≤ (show Int from x.2.1) ∧ (show Int from x.2.1) ≤ 65535 := hx.2.1
  have h2 : 0 ≤ (show Int from x.2.2.1) ∧ (show Int from x.2.2.1) ≤ 255 := hx.2.2.1
  have h3 : ∀ s ∈ (show List ST from x.2.2.2.1), okS s := fun s hs => ⟨((hx.2.2.2.1).2 s hs).1, ((hx.2.2.2.1).2 s hs).2.2.1⟩
  exact v6_true x.1 x.2.1 x.2.2.1 x.2.2.2.1 h0 h1 h2 h3
theorem law_run : ∀ x : Tup taus, InTup taus x → ∃ k H', TM.evF Try.prog (mkTn base o38 t38) dOk k 6 (argsOf Try.prog Try.f6.params.toList taus x) [] = some ([.sc (.bool true)], H') := by
  intro x hx
  have e := args0 x
  rw [e]
  refine ⟨41, [], ?_⟩
  rw [fn_eq (by kernel_rfl), ev6, law_v x hx]
  rfl
theorem law_lifted (os : Os) (started : os.Started) (H : Type) (enc : TypeId × Value → H) :
    ReturnsInHanded {} Try.checked os 6 .any (Rows.sojournPatienceSpec.pre6 enc Try.prog Try.f6 Rows.sojournPatienceRow.domain false) (Rows.sojournPatienceSpec.post enc Try.prog Try.f6 false true false false) :=
  law_tm (C := Try.checked) (τs := taus) (tb := 4) (base := base) (O := o38) (T := t38) own0 started (by kernel_rfl) Try.func6
    (ChangeSpec.witness6 (enc := enc) (C := Try.checked) false ⟨#[], #[.int .u16 0, .int .u16 0, .int .u8 0, .slice none 0 0], []⟩ 8 (by kernel_rfl) (by kernel_rfl) (by kernel_rfl) (by kernel_rfl))
    laid0 (by kernel_rfl) (by kernel_rfl) rfl (by kernel_rfl) names mixed ok38 (by kernel_rfl) (by kernel_rfl)
    (fun ds h => by
      match ds, h with
      | [_, _, _, _], _ => rfl)
    law_run
theorem sojournPatience_holds : Rows.SojournPatienceSaid :=
  OpenClaim.holds_of_wide 6 Try.f6 rfl rfl rfl rfl rfl rfl rfl ⟨rfl, rfl, rfl, rfl, rfl⟩ rfl rfl rfl rfl rfl (by kernel_rfl) Try.func6 (by kernel_rfl)
    (of_decide_eq_true (by kernel_rfl)) (by unfold Func.isWrapper; first | (rw [if_pos (by decide +kernel)]; kernel_rfl) | (rw [if_neg (by decide +kernel)]; exact ⟨rfl, rfl⟩))
    (fun os started H enc _ => law_lifted os started H enc)
end Go.Proofs.Ythbinbcgjhnijaa
