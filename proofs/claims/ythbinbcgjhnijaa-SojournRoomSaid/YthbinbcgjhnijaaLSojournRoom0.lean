/- SojournRoom: it returns true at every input; no conditions. -/
import Derived.Test.YthbinbcgjhnijaaG4
import Derived.Test.YthbinbcgjhnijaaRows
import Derived.ProofKit
set_option linter.all false
set_option linter.constructorNameAsVariable false
set_option linter.unnecessarySimpa false
set_option linter.unusedSimpArgs false
set_option linter.unusedVariables false
set_option linter.unusedVariables false
namespace Go.Proofs.Ythbinbcgjhnijaa
open Go Go.AM Go.TM Go.Proofs
@[simp] theorem ok_some {α : Type} (x : α) : ok (some x) = true := rfl
@[simp] theorem val_some {α : Type} [Inhabited α] (x : α) : val (some x) = x := rfl
@[simp] theorem isL_inl {α β : Type} (x : α) : isL (some (.inl x : α ⊕ β)) = true := rfl
@[simp] theorem isL_inr {α β : Type} (x : β) : isL (some (.inr x : α ⊕ β)) = false := rfl
@[simp] theorem getL_inl {α β : Type} [Inhabited α] (x : α) : getL (some (.inl x : α ⊕ β)) = x := rfl
@[simp] theorem getR_inr {α β : Type} (x : β) : getR (some (.inr x : α ⊕ β)) = some x := rfl
theorem cond_nb {α : Type} (b : Bool) (x y : α) : cond (!b) x y = cond b y x := by cases b <;> rfl
theorem wrap_id {x : Int} (h1 : -9223372036854775808 ≤ x) (h2 : x ≤ 9223372036854775807) : IntKind.wrap IntKind.i64 x = x := by
  simp [IntKind.wrap, IntKind.bits, IntKind.signed]
  omega
theorem up1 {i : Nat} (h : i < 9223372036854775807) : IntKind.wrap IntKind.i64 ((i : Int) + 1) = ((i + 1 : Nat) : Int) := by rw [wrap_id (by omega) (by omega)]; omega
theorem getD_drop {α : Type} {l : List α} {i : Nat} (h : i < l.length) (d : α) : l.drop i = l.getD i d :: l.drop (i + 1) := by
  rw [List.drop_eq_getElem_cons h]
  congr 1
  simp [List.getD, List.getElem?_eq_getElem h]
abbrev Len {α : Type} (l : List α) : Prop := l.length ≤ 9223372036854775807
theorem and_cond (p q : Prop) [Decidable p] [Decidable q] : cond (decide p) (some (decide q)) (some false) = some (decide (p ∧ q)) := by
  by_cases h : p <;> simp [h]
theorem nand_cond (p q : Prop) [Decidable p] [Decidable q] : cond (decide p) (some false) (some (decide q)) = some (decide (¬ p ∧ q)) := by
  by_cases h : p <;> simp [h]
theorem bne_dec (x y : Int) : (x != y) = !decide (x = y) := rfl
theorem beq_dec (x y : Int) : (x == y) = decide (x = y) := rfl
abbrev PK := Int × Int × Int × Int × Int × Int × Bool × Bool
abbrev QD := PK × Int
def pkOk (p : PK) : Bool := decide ((0 ≤ p.1 ∧ p.1 ≤ 7) ∧ (0 ≤ p.2.1 ∧ p.2.1 ≤ 3) ∧ (0 ≤ p.2.2.1 ∧ p.2.2.1 ≤ 1000000000) ∧ (0 ≤ p.2.2.2.1 ∧ p.2.2.2.1 ≤ 1000000000) ∧ (1 ≤ p.2.2.2.2.1 ∧ p.2.2.2.2.1 ≤ 10000) ∧ (0 ≤ p.2.2.2.2.2.1 ∧ p.2.2.2.2.2.1 ≤ 10000000))
theorem v39_eq (a b c : Int) : v39 a b c = some (decide (b ≤ a ∧ a ≤ c)) := by
  unfold v39; rw [and_cond]
theorem v40_eq (a : Int) : v40 a = some (decide (0 ≤ a ∧ a ≤ 10000000)) := by
  unfold v40; simp only [v39_eq, ok_some, val_some, cond_true]
theorem v26_eq (a : Int) : v26 a = some (decide (0 ≤ a ∧ a ≤ 10000000)) := by
  unfold v26; rw [and_cond]
theorem v44_eq (a : Int) : v44 a = some (decide (0 ≤ a ∧ a ≤ 1000000000)) := by
  unfold v44; rw [and_cond]
theorem v31_eq (p : PK) : v31 p.1 p.2.1 p.2.2.1 p.2.2.2.1 p.2.2.2.2.1 p.2.2.2.2.2.1 p.2.2.2.2.2.2.1 p.2.2.2.2.2.2.2 = some (pkOk p) := by
  unfold v31 pkOk
  simp only [v39_eq, v40_eq, ok_some, val_some, cond_true, and_cond]
theorem v27_eq (p : PK) : v27 p.1 p.2.1 p.2.2.1 p.2.2.2.1 p.2.2.2.2.1 p.2.2.2.2.2.1 p.2.2.2.2.2.2.1 p.2.2.2.2.2.2.2 = some (pkOk p) := by
  unfold v27 pkOk
  simp only [v44_eq, v26_eq, ok_some, val_some, cond_true, and_cond]
  congr 1
  apply decide_eq_decide.2
  constructor <;> intro h <;> omega
theorem l45 (l : List Int) (hl : Len l) : ∀ (k n i : Nat), i + k = l.length → k < n →
    (∃ j : Nat, L45_0_0 n l (l.length : Int) (i : Int) = some (.inl (j : Int)) ∧ (l.drop i).any (· != 0) = true) ∨ (L45_0_0 n l (l.length : Int) (i : Int) = some (.inr ()) ∧ (l.drop i).any (· != 0) = false) := by
  intro k
  induction k with
  | zero =>
    intro n i h1 h2
    cases n with
    | zero => omega
    | succ n =>
      rw [qL45_0_0, decide_eq_false (show ¬ ((i : Int) < (l.length : Int)) by omega), List.drop_of_length_le (show l.length ≤ i by omega)]
      exact .inr ⟨rfl, rfl⟩
  | succ k ih =>
    intro n i h1 h2
    cases n with
    | zero => omega
    | succ n =>
      have hi : i < l.length := by omega
      rw [qL45_0_0, decide_eq_true (show (i : Int) < (l.length : Int) by omega), decide_eq_true (show (0 : Int) ≤ (i : Int) by omega), up1 (by have : l.length ≤ 9223372036854775807 := hl; omega)]
      simp only [cond_true, Int.toNat_natCast, v42, val_some]
      rw [getD_drop hi 0]
      cases hb : (l.getD i 0 != 0) with
      | true => exact .inl ⟨i, rfl, by simp only [List.any_cons, hb, Bool.true_or]⟩
      | false =>
        simp only [cond_false, List.any_cons, hb, Bool.false_or]
        exact ih n (i + 1) (by omega) (by omega)
theorem v41_eq (l : List Int) (hl : Len l) : v41 l = some (l.any (· != 0)) := by
  unfold v41 v45
  rcases l45 l hl l.length FU 0 (by omega) (by have : l.length ≤ 9223372036854775807 := hl; unfold FU; omega) with ⟨j, h, hx⟩ | ⟨h, hx⟩
  · simp only [Int.natCast_zero, List.drop_zero] at h hx
    rw [h, hx]
    simp
  · simp only [Int.natCast_zero, List.drop_zero] at h hx
    rw [h, hx]
    simp
def lst (hi : Int) : Int → List QD → Bool
  | _, [] => true
  | last, w :: r => cond (pkOk w.1) (cond (decide (last ≤ w.2 ∧ w.2 ≤ hi)) (lst hi w.2 r) false) false
theorem l18 (l : List QD) (hl : Len l) (x4 x5 x6 x7 x8 x9 x10 hi0 : Int) : ∀ (k n i : Nat) (last : Int), i + k = l.length → k < n →
    L18_0_0 n last l (l.length : Int) (i : Int) x4 x5 x6 x7 x8 x9 x10 hi0 = some (cond (lst hi0 last (l.drop i)) (.inr ()) (.inl false)) := by
  intro k
  induction k with
  | zero =>
    intro n i last h1 h2
    cases n with
    | zero => omega
    | succ n =>
      rw [qL18_0_0, decide_eq_false (show ¬ ((i : Int) < (l.length : Int)) by omega), List.drop_of_length_le (show l.length ≤ i by omega)]
      rfl
  | succ k ih =>
    intro n i last h1 h2
    cases n with
    | zero => omega
    | succ n =>
      have hi : i < l.length := by omega
      rw [qL18_0_0, decide_eq_true (show (i : Int) < (l.length : Int) by omega), decide_eq_true (show (0 : Int) ≤ (i : Int) by omega), up1 (by have : l.length ≤ 9223372036854775807 := hl; omega)]
      simp only [cond_true, Int.toNat_natCast, v31_eq, v39_eq, ok_some, val_some, cond_nb]
      rw [getD_drop hi (PKz, (0 : Int)), lst, ih n (i + 1) _ (by omega) (by omega)]
      cases pkOk (l.getD i (PKz, (0 : Int))).1 with
      | false => rfl
      | true =>
        simp only [cond_true]
        cases decide (last ≤ (l.getD i (PKz, (0 : Int))).2 ∧ (l.getD i (PKz, (0 : Int))).2 ≤ hi0) <;> rfl
structure Qu where
  k : Int
  a : Int
  b : Int
  c : Int
  room : Int
  ls : List (List QD)
  v0 : Int
  v1 : Int
  v2 : Int
  v3 : Int
  v4 : Int
  v5 : Int
  v6 : Int
  v7 : Int
  seed : Int
def first (q : Qu) : List QD := q.ls.getD 0 []
structure Vd (q : Qu) : Prop where
  k : q.k = 3
  a : 0 ≤ q.a ∧ q.a ≤ 1000000
  b : 1 ≤ q.b ∧ q.b ≤ 1000000
  c : q.c = 0
  room : 1 ≤ q.room ∧ q.room ≤ 500
  one : q.ls.length = 1
  seed : q.seed = 0
  v7 : 0 ≤ q.v7 ∧ q.v7 ≤ 10000000
  v0 : 0 ≤ q.v0 ∧ q.v0 ≤ q.v7 + q.b + 1
  v1 : 0 ≤ q.v1 ∧ q.v1 ≤ 1000000000
  v01 : q.v0 = 0 → q.v1 = 0
  len : ((first q).length : Int) ≤ q.room
  v2 : q.v2 = 0
  v3 : q.v3 = 0
  v4 : q.v4 = 0
  v5 : q.v5 = 0
  v6 : q.v6 = 0
  lst : lst q.v7 0 (first q) = true
def vd (q : Qu) : Bool := decide (q.k = 3 ∧ (0 ≤ q.a ∧ q.a ≤ 1000000) ∧ (1 ≤ q.b ∧ q.b ≤ 1000000) ∧ q.c = 0 ∧ (1 ≤ q.room ∧ q.room ≤ 500) ∧ q.ls.length = 1 ∧ q.seed = 0 ∧ (0 ≤ q.v7 ∧ q.v7 ≤ 10000000) ∧
  (0 ≤ q.v0 ∧ q.v0 ≤ q.v7 + q.b + 1) ∧ (0 ≤ q.v1 ∧ q.v1 ≤ 1000000000) ∧ (q.v0 = 0 → q.v1 = 0) ∧ ((first q).length : Int) ≤ q.room ∧ (q.v2 = 0 ∧ q.v3 = 0 ∧ q.v4 = 0 ∧ q.v5 = 0 ∧ q.v6 = 0) ∧ lst q.v7 0 (first q) = true)
theorem vd_iff {q : Qu} : vd q = true ↔ Vd q := by
  unfold vd
  rw [decide_eq_true_iff]
  constructor
  · rintro ⟨h1, h2, h3, h4, h5, h6, h7, h8, h9, h10, h11, h12, ⟨h13, h14, h15, h16, h17⟩, h18⟩
    exact ⟨h1, h2, h3, h4, h5, h6, h7, h8, h9, h10, h11, h12, h13, h14, h15, h16, h17, h18⟩
  · rintro ⟨h1, h2, h3, h4, h5, h6, h7, h8, h9, h10, h11, h12, h13, h14, h15, h16, h17, h18⟩
    exact ⟨h1, h2, h3, h4, h5, h6, h7, h8, h9, h10, h11, h12, ⟨h13, h14, h15, h16, h17⟩, h18⟩
theorem L18_68_eq (q : Qu) (hf : Len (first q)) (h1 : q.ls.length = 1) (y0 y1 y2 y3 y4 y5 y6 y7 : Int) : L18_68_0 q.k q.a q.b q.c q.room q.ls q.v0 q.v1 q.v2 q.v3 q.v4 q.v5 q.v6 q.v7 q.seed y0 y1 y2 y3 y4 y5 y6 y7 = some (lst y7 0 (first q)) := by
  unfold L18_68_0
  rw [decide_eq_true (show (0 : Int) < (q.ls.length : Int) by omega)]
  have h := l18 (first q) hf y0 y1 y2 y3 y4 y5 y6 y7 (first q).length FU 0 0 (by omega) (by have : (first q).length ≤ 9223372036854775807 := hf; unfold FU; omega)
  simp only [Int.natCast_zero, List.drop_zero] at h
  have e : q.ls.getD (Int.toNat (0 : Int)) [] = first q := rfl
  rw [e, h]
  cases lst y7 0 (first q) <;> rfl
theorem v18_eq (q : Qu) (hf : Len (first q)) : v18 q.k q.a q.b q.c q.room q.ls q.v0 q.v1 q.v2 q.v3 q.v4 q.v5 q.v6 q.v7 q.seed = some (vd q) := by
  cases h : vd q with
  | true =>
    have hv := vd_iff.1 h
    obtain ⟨h1, h2, h3, h4, h5, h6, h7, h8, h9, h10, h11, h12, h13, h14, h15, h16, h17, h18⟩ := hv
    unfold v18 L18_36_0 L18_52_0
    have e : q.ls.getD (Int.toNat (0 : Int)) [] = first q := rfl
    have w1 : IntKind.wrap IntKind.i64 (q.v7 + q.b) = q.v7 + q.b := wrap_id (by omega) (by omega)
    have w2 : IntKind.wrap IntKind.i64 (q.v7 + q.b + 1) = q.v7 + q.b + 1 := wrap_id (by omega) (by omega)
    have e5 : v41 [q.v2, q.v3, q.v4, q.v5, q.v6] = some false := by
      rw [v41_eq _ (by simp)]; simp [h13, h14, h15, h16, h17]
    simp only [v39_eq, v40_eq, w1, w2, ok_some, val_some, cond_true, cond_nb, e5, e, L18_68_eq q hf h6, h18]
    rw [h1, h4, h6, h7]
    rw [decide_eq_true h2, decide_eq_true h3, decide_eq_true h5, decide_eq_true h8, decide_eq_true h9, decide_eq_true h10]
    rw [decide_eq_false (show ¬ (((first q).length : Int) > q.room) by omega)]
    by_cases z : q.v0 = 0
    · rw [z, h11 z]; rfl
    · have : (q.v0 == (0 : Int)) = false := by simpa using z
      rw [this]; rfl
  | false =>
    have hv : ¬ Vd q := fun hv => by rw [vd_iff.2 hv] at h; cases h
    unfold v18
    simp only [v39_eq, ok_some, val_some, cond_true, cond_nb]
    by_cases h1 : q.k = 3
    case neg => have : (q.k != (3 : Int)) = true := by simpa using h1
                rw [this]; rfl
    by_cases h2 : 0 ≤ q.a ∧ q.a ≤ 1000000
    case neg => rw [decide_eq_false h2, h1]; rfl
    by_cases h3 : 1 ≤ q.b ∧ q.b ≤ 1000000
    case neg => rw [decide_eq_true h2, decide_eq_false h3, h1]; rfl
    by_cases h4 : q.c = 0
    case neg => have : (q.c != (0 : Int)) = true := by simpa using h4
                rw [decide_eq_true h2, decide_eq_true h3, h1, this]; rfl
    by_cases h5 : 1 ≤ q.room ∧ q.room ≤ 500
    case neg => rw [decide_eq_true h2, decide_eq_true h3, h1, h4, decide_eq_false h5]; rfl
    by_cases h6 : q.ls.length = 1
    case neg => have : ((q.ls.length : Int) != (1 : Int)) = true := by simp; omega
                rw [decide_eq_true h2, decide_eq_true h3, h1, h4, decide_eq_true h5, this]; rfl
    by_cases h7 : q.seed = 0
    case neg => have : (q.seed != (0 : Int)) = true := by simpa using h7
                rw [decide_eq_true h2, decide_eq_true h3, h1, h4, decide_eq_true h5, h6, this]; rfl
    have main : L18_36_0 q.k q.a q.b q.c q.room q.ls q.v0 q.v1 q.v2 q.v3 q.v4 q.v5 q.v6 q.v7 q.seed q.k q.a q.b q.c q.v0 q.v1 q.v2 q.v3 q.v4 q.v5 q.v6 q.v7 = some false := by
      unfold L18_36_0
      simp only [v39_eq, v40_eq, ok_some, val_some, cond_true, cond_nb]
      by_cases h8 : 0 ≤ q.v7 ∧ q.v7 ≤ 10000000
      case neg => rw [decide_eq_false h8]; rfl
      have w1 : IntKind.wrap IntKind.i64 (q.v7 + q.b) = q.v7 + q.b := wrap_id (by omega) (by omega)
      have w2 : IntKind.wrap IntKind.i64 (q.v7 + q.b + 1) = q.v7 + q.b + 1 := wrap_id (by omega) (by omega)
      rw [w1, w2, decide_eq_true h8]
      simp only [cond_true]
      by_cases h9 : 0 ≤ q.v0 ∧ q.v0 ≤ q.v7 + q.b + 1
      case neg => rw [decide_eq_false h9]; rfl
      by_cases h10 : 0 ≤ q.v1 ∧ q.v1 ≤ 1000000000
      case neg => rw [decide_eq_true h9, decide_eq_false h10]; rfl
      rw [decide_eq_true h9, decide_eq_true h10]
      simp only [cond_true]
      have rest : (cond (decide (0 < (q.ls.length : Int))) (cond (decide (((q.ls.getD (Int.toNat (0 : Int)) []).length : Int) > q.room)) (some false) (cond (ok (L18_52_0 q.k q.a q.b q.c q.room q.ls q.v0 q.v1 q.v2 q.v3 q.v4 q.v5 q.v6 q.v7 q.seed q.v0 q.v1 q.v2 q.v3 q.v4 q.v5 q.v6 q.v7)) (some (val (L18_52_0 q.k q.a q.b q.c q.room q.ls q.v0 q.v1 q.v2 q.v3 q.v4 q.v5 q.v6 q.v7 q.seed q.v0 q.v1 q.v2 q.v3 q.v4 q.v5 q.v6 q.v7))) none)) none) = some false ∨ (q.v0 = 0 ∧ q.v1 ≠ 0) := by
        by_cases h11 : q.v0 = 0 → q.v1 = 0
        case neg => exact .inr (Classical.not_imp.1 h11)
        left
        rw [decide_eq_true (show (0 : Int) < (q.ls.length : Int) by omega)]
        have e : q.ls.getD (Int.toNat (0 : Int)) [] = first q := rfl
        rw [e]
        by_cases h12 : ((first q).length : Int) ≤ q.room
        case neg => rw [decide_eq_true (show ((first q).length : Int) > q.room by omega)]; rfl
        rw [decide_eq_false (show ¬ ((first q).length : Int) > q.room by omega)]
        simp only [cond_true, cond_false]
        unfold L18_52_0
        rw [v41_eq _ (by simp), L18_68_eq q hf h6]
        simp only [ok_some, val_some, cond_true]
        cases hz : [q.v2, q.v3, q.v4, q.v5, q.v6].any (· != 0) with
        | true => rfl
        | false =>
          simp only [cond_false]
          cases hl : lst q.v7 0 (first q) with
          | false => rfl
          | true =>
            simp at hz
            exact absurd ⟨h1, h2, h3, h4, h5, h6, h7, h8, h9, h10, h11, h12, hz.1, hz.2.1, hz.2.2.1, hz.2.2.2.1, hz.2.2.2.2, hl⟩ hv
      rcases rest with hr | ⟨z0, z1⟩
      · rw [hr]
        by_cases z : q.v0 = 0
        · rw [z]
          by_cases z2 : q.v1 = 0
          · rw [z2]; rfl
          · have : (q.v1 != (0 : Int)) = true := by simpa using z2
            rw [this]; rfl
        · have : (q.v0 == (0 : Int)) = false := by simpa using z
          rw [this]; rfl
      · have : (q.v1 != (0 : Int)) = true := by simpa using z1
        rw [z0, this]; rfl
    rw [decide_eq_true h2, decide_eq_true h3, decide_eq_true h5, main, h1, h4, h6, h7]; rfl
end Go.Proofs.Ythbinbcgjhnijaa
set_option linter.unusedVariables false
set_option maxRecDepth 100000
namespace Go.Proofs.Ythbinbcgjhnijaa
open Go Go.AM Go.TM Go.Proofs
theorem copy_all {α : Type} (l : List α) (x : α) : List.take (List.length (List.replicate (Int.toNat (l.length : Int)) x)) l ++ List.drop l.length (List.replicate (Int.toNat (l.length : Int)) x) = l := by
  simp
def opn (q : Qu) (now : Int) : Int := cond (vd q) (cond (decide (0 ≤ now ∧ now ≤ 10000000)) (cond (decide (now < q.v7)) 18 0) 1) 1
theorem len_first {q : Qu} (h : vd q = true) : (first q).length ≤ 500 := by
  have hv := vd_iff.1 h
  have h1 := hv.len
  have h2 := hv.room
  omega
theorem v32_eq (q : Qu) (now : Int) (hf : Len (first q)) : v32 q.k q.a q.b q.c q.room q.ls q.v0 q.v1 q.v2 q.v3 q.v4 q.v5 q.v6 q.v7 q.seed now = some (cond (decide (opn q now = 0)) (.inr (0, first q)) (.inl (opn q now))) := by
  unfold v32 opn
  rw [v18_eq q hf, v40_eq]
  simp only [ok_some, val_some, cond_true, cond_nb]
  cases h : vd q with
  | false => rfl
  | true =>
    have hl := len_first h
    have hv := vd_iff.1 h
    simp only [cond_true]
    by_cases h1 : 0 ≤ now ∧ now ≤ 10000000
    case neg => rw [decide_eq_false h1]; rfl
    rw [decide_eq_true h1]
    simp only [cond_true]
    by_cases h2 : now < q.v7
    case pos => rw [decide_eq_true h2]; rfl
    rw [decide_eq_false h2, decide_eq_true (show (0 : Int) < (q.ls.length : Int) by rw [hv.one]; decide)]
    have e : q.ls.getD (Int.toNat (0 : Int)) [] = first q := rfl
    have w : IntKind.wrap IntKind.i64 (((first q).length : Int) + 1) = ((first q).length : Int) + 1 := wrap_id (by omega) (by omega)
    rw [e, w, decide_eq_true (show ((first q).length : Int) ≤ ((first q).length : Int) + 1 by omega), decide_eq_true (show ((first q).length : Int) + 1 ≤ ((2147483648 : Nat) : Int) by omega), copy_all]
    rfl
abbrev QT := Int × Int × Int × Int × Int × List (List QD) × Int × Int × Int × Int × Int × Int × Int × Int × Int
def putR (q : Qu) (p : PK) (now : Int) : Int × Int × Int × Int × Int × List (List QD) × Int × Int × Int × Int × Int × Int × Int × Int × Int × List PK × Int :=
  cond (pkOk p) (cond (decide (opn q now = 0))
    (cond (decide (((first q).length : Int) ≥ q.room))
      (q.k, q.a, q.b, q.c, q.room, [first q], q.v0, q.v1, q.v2, q.v3, q.v4, q.v5, q.v6, now, q.seed, [p], 0)
      (q.k, q.a, q.b, q.c, q.room, [first q ++ [(p, now)]], q.v0, q.v1, q.v2, q.v3, q.v4, q.v5, q.v6, now, q.seed, [], 0))
    (0, 0, 0, 0, 0, [], 0, 0, 0, 0, 0, 0, 0, 0, 0, [], opn q now))
   (0, 0, 0, 0, 0, [], 0, 0, 0, 0, 0, 0, 0, 0, 0, [], 1)
theorem opn_vd {q : Qu} {now : Int} (h : opn q now = 0) : vd q = true ∧ 0 ≤ now ∧ now ≤ 10000000 ∧ q.v7 ≤ now := by
  unfold opn at h
  cases hv : vd q with
  | false => rw [hv] at h; cases h
  | true =>
    rw [hv] at h
    simp only [cond_true] at h
    by_cases h1 : 0 ≤ now ∧ now ≤ 10000000
    case neg => rw [decide_eq_false h1] at h; cases h
    rw [decide_eq_true h1] at h
    simp only [cond_true] at h
    by_cases h2 : now < q.v7
    case pos => rw [decide_eq_true h2] at h; cases h
    exact ⟨rfl, h1.1, h1.2, by omega⟩
theorem L12_28_eq (q : Qu) (p : PK) (now : Int) (hf : Len (first q)) : L12_28_0 now q.k q.a q.b q.c q.room q.ls q.v0 q.v1 q.v2 q.v3 q.v4 q.v5 q.v6 q.v7 q.seed p.1 p.2.1 p.2.2.1 p.2.2.2.1 p.2.2.2.2.1 p.2.2.2.2.2.1 p.2.2.2.2.2.2.1 p.2.2.2.2.2.2.2 0 0 0 0 0 0 0 0 0 0 0 0 0 0 [] =
    some (cond (decide (opn q now = 0)) (cond (decide (((first q).length : Int) ≥ q.room)) (.inr (.inl (0, [p], first q))) (.inr (.inr (0, first q ++ [(p, now)])))) (.inl (opn q now, 0, 0, 0, 0, 0, 0, 0, 0, 0, 0, 0, 0, 0, 0))) := by
  unfold L12_28_0
  rw [v32_eq q now hf]
  by_cases h : opn q now = 0
  · have hl := len_first (opn_vd h).1
    rw [decide_eq_true h]
    simp only [cond_true, isL_inr, getR_inr, ok_some, val_some, cond_false]
    unfold L12_52_1 L12_68_0
    by_cases h1 : ((first q).length : Int) ≥ q.room
    · rw [decide_eq_true h1]; rfl
    · rw [decide_eq_false h1, decide_eq_true (show (first q).length + [((p.1, p.2.1, p.2.2.1, p.2.2.2.1, p.2.2.2.2.1, p.2.2.2.2.2.1, p.2.2.2.2.2.2.1, p.2.2.2.2.2.2.2), now)].length ≤ 2147483648 by simp; omega)]
      rfl
  · rw [decide_eq_false h]
    simp only [cond_false, isL_inl, getL_inl, cond_true]
    have : (opn q now != (0 : Int)) = true := by simpa using h
    rw [this]; rfl
theorem v12_eq (q : Qu) (p : PK) (now : Int) (hf : Len (first q)) : v12 q.k q.a q.b q.c q.room q.ls q.v0 q.v1 q.v2 q.v3 q.v4 q.v5 q.v6 q.v7 q.seed p.1 p.2.1 p.2.2.1 p.2.2.2.1 p.2.2.2.2.1 p.2.2.2.2.2.1 p.2.2.2.2.2.2.1 p.2.2.2.2.2.2.2 now = some (putR q p now) := by
  unfold v12 putR
  rw [v31_eq, L12_28_eq q p now hf]
  simp only [ok_some, val_some, cond_true, cond_nb]
  cases pkOk p with
  | false => rfl
  | true =>
    by_cases h : opn q now = 0
    · rw [decide_eq_true h]
      simp only [cond_true]
      by_cases h1 : ((first q).length : Int) ≥ q.room
      · rw [decide_eq_true h1]; rfl
      · rw [decide_eq_false h1]; rfl
    · rw [decide_eq_false h]; rfl
end Go.Proofs.Ythbinbcgjhnijaa
set_option linter.unusedVariables false
namespace Go.TM
open Go Go.AM
@[simp] theorem ok_some {α : Type} (x : α) : ok (some x) = true := rfl
@[simp] theorem val_some {α : Type} [Inhabited α] (x : α) : val (some x) = x := rfl
@[simp] theorem isL_inl {α β : Type} (x : α) : isL (some (.inl x : α ⊕ β)) = true := rfl
@[simp] theorem isL_inr {α β : Type} (x : β) : isL (some (.inr x : α ⊕ β)) = false := rfl
@[simp] theorem getL_inl {α β : Type} [Inhabited α] (x : α) : getL (some (.inl x : α ⊕ β)) = x := rfl
@[simp] theorem getR_inr {α β : Type} (x : β) : getR (some (.inr x : α ⊕ β)) = some x := rfl
theorem cond_nb {α : Type} (b : Bool) (x y : α) : cond (!b) x y = cond b y x := by cases b <;> rfl
theorem wrap_id {x : Int} (h1 : -9223372036854775808 ≤ x) (h2 : x ≤ 9223372036854775807) : IntKind.wrap IntKind.i64 x = x := by
  simp [IntKind.wrap, IntKind.bits, IntKind.signed]
  omega
theorem up1 {i : Nat} (h : i < 9223372036854775807) : IntKind.wrap IntKind.i64 ((i : Int) + 1) = ((i + 1 : Nat) : Int) := by rw [wrap_id (by omega) (by omega)]; omega
theorem dn1 {i : Nat} (h0 : 0 < i) (h : i ≤ 9223372036854775807) : IntKind.wrap IntKind.i64 ((i : Int) - 1) = ((i - 1 : Nat) : Int) := by rw [wrap_id (by omega) (by omega)]; omega
theorem getD_drop {α : Type} {l : List α} {i : Nat} (h : i < l.length) (d : α) : l.drop i = l.getD i d :: l.drop (i + 1) := by
  rw [List.drop_eq_getElem_cons h]
  congr 1
  simp [List.getD, List.getElem?_eq_getElem h]
theorem getD_in {α : Type} {l : List α} {i : Nat} (h : i < l.length) (d : α) : l.getD i d ∈ l := by
  have : l.getD i d = l[i] := by simp [List.getD, List.getElem?_eq_getElem h]
  rw [this]; exact List.getElem_mem h
abbrev Len {α : Type} (l : List α) : Prop := l.length ≤ 9223372036854775807
theorem and_cond (p q : Prop) [Decidable p] [Decidable q] : cond (decide p) (some (decide q)) (some false) = some (decide (p ∧ q)) := by
  by_cases h : p <;> simp [h]
theorem nand_cond (p q : Prop) [Decidable p] [Decidable q] : cond (decide p) (some false) (some (decide q)) = some (decide (¬ p ∧ q)) := by
  by_cases h : p <;> simp [h]
theorem bne_dec (x y : Int) : (x != y) = !decide (x = y) := rfl
theorem beq_dec (x y : Int) : (x == y) = decide (x = y) := rfl
theorem all_loop {m : Nat} (hm : m ≤ 9223372036854775807) (F : Nat → Int → Option (Bool ⊕ Unit)) (g : Nat → Bool)
    (hs : ∀ n (i : Nat), i < m → F (n + 1) (i : Int) = cond (g i) (F n ((i + 1 : Nat) : Int)) (some (.inl false))) (he : ∀ n, F (n + 1) (m : Int) = some (.inr ())) :
    F FU 0 = some (cond ((List.range m).all g) (.inr ()) (.inl false)) := by
  have key : ∀ (k n i : Nat), i + k = m → k < n → F n (i : Int) = some (cond ((List.range' i k).all g) (.inr ()) (.inl false)) := by
    intro k
    induction k with
    | zero =>
      intro n i h1 h2
      cases n with
      | zero => omega
      | succ n =>
        have : i = m := by omega
        subst this
        rw [he]; rfl
    | succ k ih =>
      intro n i h1 h2
      cases n with
      | zero => omega
      | succ n =>
        rw [hs n i (by omega), ih n (i + 1) (by omega) (by omega), List.range'_succ, List.all_cons]
        cases g i <;> rfl
  have := key m FU 0 (by omega) (by unfold FU; omega)
  rw [List.range_eq_range']
  exact this
theorem any_loop {m : Nat} (hm : m ≤ 9223372036854775807) (F : Nat → Int → Option (Bool ⊕ Unit)) (g : Nat → Bool)
    (hs : ∀ n (i : Nat), i < m → F (n + 1) (i : Int) = cond (g i) (some (.inl true)) (F n ((i + 1 : Nat) : Int))) (he : ∀ n, F (n + 1) (m : Int) = some (.inr ())) :
    F FU 0 = some (cond ((List.range m).any g) (.inl true) (.inr ())) := by
  have key : ∀ (k n i : Nat), i + k = m → k < n → F n (i : Int) = some (cond ((List.range' i k).any g) (.inl true) (.inr ())) := by
    intro k
    induction k with
    | zero =>
      intro n i h1 h2
      cases n with
      | zero => omega
      | succ n =>
        have : i = m := by omega
        subst this
        rw [he]; rfl
    | succ k ih =>
      intro n i h1 h2
      cases n with
      | zero => omega
      | succ n =>
        rw [hs n i (by omega), ih n (i + 1) (by omega) (by omega), List.range'_succ, List.any_cons]
        cases g i <;> rfl
  have := key m FU 0 (by omega) (by unfold FU; omega)
  rw [List.range_eq_range']
  exact this
theorem find_loop {m : Nat} (hm : m ≤ 9223372036854775807) (F : Nat → Int → Option (Int ⊕ Unit)) (g : Nat → Bool)
    (hs : ∀ n (i : Nat), i < m → F (n + 1) (i : Int) = cond (g i) (some (.inl (i : Int))) (F n ((i + 1 : Nat) : Int))) (he : ∀ n, F (n + 1) (m : Int) = some (.inr ())) :
    (∃ j : Nat, j < m ∧ F FU 0 = some (.inl (j : Int)) ∧ g j = true ∧ ∀ i, i < j → g i = false) ∨ (F FU 0 = some (.inr ()) ∧ ∀ i, i < m → g i = false) := by
  have key : ∀ (k n i : Nat), i + k = m → k < n → (∃ j : Nat, i ≤ j ∧ j < m ∧ F n (i : Int) = some (.inl (j : Int)) ∧ g j = true ∧ ∀ x, i ≤ x → x < j → g x = false) ∨ (F n (i : Int) = some (.inr ()) ∧ ∀ x, i ≤ x → x < m → g x = false) := by
    intro k
    induction k with
    | zero =>
      intro n i h1 h2
      cases n with
      | zero => omega
      | succ n =>
        have : i = m := by omega
        subst this
        exact .inr ⟨he n, fun x h1 h2 => by omega⟩
    | succ k ih =>
      intro n i h1 h2
      cases n with
      | zero => omega
      | succ n =>
        rw [hs n i (by omega)]
        cases hg : g i with
        | true => exact .inl ⟨i, Nat.le_refl _, by omega, rfl, hg, fun x h1 h2 => by omega⟩
        | false =>
          rcases ih n (i + 1) (by omega) (by omega) with ⟨j, h3, h4, h5, h6, h7⟩ | ⟨h3, h4⟩
          · refine .inl ⟨j, by omega, h4, h5, h6, fun x hx1 hx2 => ?_⟩
            by_cases e : x = i
            · rw [e]; exact hg
            · exact h7 x (by omega) hx2
          · refine .inr ⟨h3, fun x hx1 hx2 => ?_⟩
            by_cases e : x = i
            · rw [e]; exact hg
            · exact h4 x (by omega) hx2
  rcases key m FU 0 (by omega) (by unfold FU; omega) with ⟨j, h3, h4, h5, h6, h7⟩ | ⟨h3, h4⟩
  · exact .inl ⟨j, h4, h5, h6, fun x hx => h7 x (by omega) hx⟩
  · exact .inr ⟨h3, fun x hx => h4 x (by omega) hx⟩
theorem fold_loop {m : Nat} (hm : m ≤ 9223372036854775807) {σ ρ : Type} (F : Nat → Int → σ → Option ρ) (f : Nat → σ → σ) (I : Nat → σ → Prop) (fin : σ → ρ)
    (hs : ∀ n (i : Nat) s, i < m → I i s → F (n + 1) (i : Int) s = F n ((i + 1 : Nat) : Int) (f i s)) (hI : ∀ i s, i < m → I i s → I (i + 1) (f i s)) (he : ∀ n s, I m s → F (n + 1) (m : Int) s = some (fin s)) {s0 : σ} (h0 : I 0 s0) :
    F FU 0 s0 = some (fin ((List.range m).foldl (fun s i => f i s) s0)) ∧ I m ((List.range m).foldl (fun s i => f i s) s0) := by
  have key : ∀ (k n i : Nat) (s : σ), i + k = m → k < n → I i s → F n (i : Int) s = some (fin ((List.range' i k).foldl (fun s i => f i s) s)) ∧ I m ((List.range' i k).foldl (fun s i => f i s) s) := by
    intro k
    induction k with
    | zero =>
      intro n i s h1 h2 h3
      cases n with
      | zero => omega
      | succ n =>
        have : i = m := by omega
        subst this
        exact ⟨he n s h3, h3⟩
    | succ k ih =>
      intro n i s h1 h2 h3
      cases n with
      | zero => omega
      | succ n =>
        rw [hs n i s (by omega) h3, List.range'_succ, List.foldl_cons]
        exact ih n (i + 1) _ (by omega) (by omega) (hI i s (by omega) h3)
  have := key m FU 0 s0 (by omega) (by unfold FU; omega) h0
  rw [List.range_eq_range']
  exact this
theorem all_range {α : Type} (l : List α) (d : α) (p : α → Bool) : (List.range l.length).all (fun i => p (l.getD i d)) = l.all p := by
  apply Bool.eq_iff_iff.2
  simp only [List.all_eq_true, List.mem_range]
  constructor
  · intro h x hx
    obtain ⟨i, hi, rfl⟩ := List.getElem_of_mem hx
    have := h i hi
    simpa [List.getD, List.getElem?_eq_getElem hi] using this
  · intro h i hi
    exact h _ (getD_in hi d)
theorem any_range {α : Type} (l : List α) (d : α) (p : α → Bool) : (List.range l.length).any (fun i => p (l.getD i d)) = l.any p := by
  apply Bool.eq_iff_iff.2
  simp only [List.any_eq_true, List.mem_range]
  constructor
  · rintro ⟨i, hi, h⟩; exact ⟨_, getD_in hi d, h⟩
  · rintro ⟨x, hx, h⟩
    obtain ⟨i, hi, rfl⟩ := List.getElem_of_mem hx
    exact ⟨i, hi, by simpa [List.getD, List.getElem?_eq_getElem hi] using h⟩
theorem map_range {α : Type} (l : List α) (d : α) : (List.range l.length).map (fun i => l.getD i d) = l := by
  apply List.ext_getElem?
  intro i
  rw [List.getElem?_map]
  by_cases hi : i < l.length
  · rw [List.getElem?_range hi]
    simp [List.getD, List.getElem?_eq_getElem hi]
  · rw [List.getElem?_eq_none (by simpa using hi), List.getElem?_eq_none (by omega)]; rfl
theorem foldl_range {α σ : Type} (l : List α) (d : α) (g : σ → α → σ) (s : σ) : (List.range l.length).foldl (fun s i => g s (l.getD i d)) s = l.foldl g s := by
  conv => rhs; rw [← map_range l d, List.foldl_map]
theorem at_loop {m : Nat} (hm : m ≤ 9223372036854775807) {σ ρ : Type} (F : Nat → Int → σ → Option ρ) (g : Nat → σ) (r : ρ)
    (hs : ∀ n (i : Nat), i < m → F (n + 1) (i : Int) (g i) = F n ((i + 1 : Nat) : Int) (g (i + 1))) (he : ∀ n, F (n + 1) (m : Int) (g m) = some r) : F FU 0 (g 0) = some r := by
  have key : ∀ (k n i : Nat), i + k = m → k < n → F n (i : Int) (g i) = some r := by
    intro k
    induction k with
    | zero =>
      intro n i h1 h2
      cases n with
      | zero => omega
      | succ n => rw [show i = m by omega]; exact he n
    | succ k ih =>
      intro n i h1 h2
      cases n with
      | zero => omega
      | succ n => rw [hs n i (by omega)]; exact ih n (i + 1) (by omega) (by omega)
  exact key m FU 0 (by omega) (by unfold FU; omega)
theorem idx_of {m : Nat} (hm : m ≤ 9223372036854775807) (F : Nat → Int → Option (Int ⊕ Unit)) (g : Nat → Bool)
    (hs : ∀ n (i : Nat), i < m → F (n + 1) (i : Int) = cond (g i) (some (.inl (i : Int))) (F n ((i + 1 : Nat) : Int))) (he : ∀ n, F (n + 1) (m : Int) = some (.inr ())) :
    ∃ j : Int, cond (isL (F FU 0)) (some (getL (F FU 0))) (cond (ok (getR (F FU 0))) (some (-1 : Int)) none) = some j ∧ decide (j ≥ 0) = (List.range m).any g := by
  rcases find_loop hm F g hs he with ⟨j, h1, h2, h3, _⟩ | ⟨h2, h3⟩
  · refine ⟨(j : Int), by rw [h2]; rfl, ?_⟩
    rw [decide_eq_true (show (j : Int) ≥ 0 by omega), eq_comm, List.any_eq_true]
    exact ⟨j, List.mem_range.2 h1, h3⟩
  · refine ⟨-1, by rw [h2]; rfl, ?_⟩
    rw [decide_eq_false (show ¬ (-1 : Int) ≥ 0 by omega), eq_comm, List.any_eq_false]
    intro x hx
    rw [h3 x (List.mem_range.1 hx)]; simp
def sumN : Nat → (Nat → Int) → Int
  | 0, _ => 0
  | n + 1, f => sumN n f + f n
theorem sumN_le {n : Nat} {f g : Nat → Int} (h : ∀ i, i < n → f i ≤ g i) : sumN n f ≤ sumN n g := by
  induction n with
  | zero => exact Int.le_refl _
  | succ n ih => exact Int.add_le_add (ih fun i hi => h i (by omega)) (h n (by omega))
theorem sumN_congr {n : Nat} {f g : Nat → Int} (h : ∀ i, i < n → f i = g i) : sumN n f = sumN n g := by
  induction n with
  | zero => rfl
  | succ n ih => simp only [sumN]; rw [ih fun i hi => h i (by omega), h n (by omega)]
theorem sumN_const (n : Nat) (c : Int) : sumN n (fun _ => c) = n * c := by
  induction n with
  | zero => simp [sumN]
  | succ n ih => simp only [sumN]; rw [ih]; push_cast; rw [Int.add_mul]; omega
theorem sumN_zero (n : Nat) : sumN n (fun _ => 0) = 0 := by rw [sumN_const]; simp
theorem sumN_nonneg {n : Nat} {f : Nat → Int} (h : ∀ i, i < n → 0 ≤ f i) : 0 ≤ sumN n f := by
  have := sumN_le (n := n) (f := fun _ => 0) (g := f) h
  rw [sumN_zero] at this; exact this
theorem sumN_bd {n m : Nat} {f : Nat → Int} {c : Int} (hn : n ≤ m) (h : ∀ i, i < n → 0 ≤ f i ∧ f i ≤ c) (hc : 0 ≤ c) : 0 ≤ sumN n f ∧ sumN n f ≤ m * c := by
  refine ⟨sumN_nonneg fun i hi => (h i hi).1, ?_⟩
  have := sumN_le (n := n) (f := f) (g := fun _ => c) fun i hi => (h i hi).2
  rw [sumN_const] at this
  exact Int.le_trans this (Int.mul_le_mul_of_nonneg_right (by omega) hc)
theorem sumN_add (n : Nat) (f g : Nat → Int) : sumN n (fun i => f i + g i) = sumN n f + sumN n g := by
  induction n with
  | zero => rfl
  | succ n ih => simp only [sumN]; rw [ih]; omega
theorem sumN_mul (n : Nat) (f : Nat → Int) (c : Int) : sumN n (fun i => c * f i) = c * sumN n f := by
  induction n with
  | zero => simp [sumN]
  | succ n ih => simp only [sumN]; rw [ih, Int.mul_add]
theorem sumN_mul' (n : Nat) (f : Nat → Int) (c : Int) : sumN n (fun i => f i * c) = sumN n f * c := by
  rw [Int.mul_comm, ← sumN_mul]; exact sumN_congr fun i _ => Int.mul_comm _ _
theorem sumN_swap (n m : Nat) (f : Nat → Nat → Int) : sumN n (fun i => sumN m fun j => f i j) = sumN m (fun j => sumN n fun i => f i j) := by
  induction n with
  | zero => exact (sumN_zero m).symm
  | succ n ih => simp only [sumN]; rw [ih, ← sumN_add]
theorem sumN_one (n : Nat) {f : Nat → Int} {i : Nat} (hi : i < n) (h : ∀ j, j < n → 0 ≤ f j) : f i ≤ sumN n f := by
  induction n with
  | zero => omega
  | succ n ih =>
    simp only [sumN]
    by_cases hn : i = n
    · have := sumN_nonneg (n := n) (f := f) fun j hj => h j (by omega)
      rw [hn]; omega
    · have := ih (by omega) fun j hj => h j (by omega)
      have := h n (by omega)
      omega
theorem ceil_lt {p x c : Int} (hp : 0 < p) (hx : 0 ≤ x) (hc : 0 < c) : x < Int.tdiv (c + p - 1) p ↔ p * x < c := by
  rw [Int.tdiv_eq_ediv_of_nonneg (by omega)]
  have h1 := Int.mul_ediv_add_emod (c + p - 1) p
  have h2 := Int.emod_nonneg (c + p - 1) (show p ≠ 0 by omega)
  have h3 := Int.emod_lt_of_pos (c + p - 1) hp
  constructor
  · intro h
    have h4 : p * (x + 1) ≤ p * ((c + p - 1) / p) := Int.mul_le_mul_of_nonneg_left (by omega) (by omega)
    rw [Int.mul_add, Int.mul_one] at h4
    omega
  · intro h
    apply Int.lt_of_not_ge
    intro h4
    have h5 : p * ((c + p - 1) / p) ≤ p * x := Int.mul_le_mul_of_nonneg_left h4 (by omega)
    omega
theorem ceil_le {p c : Int} (hp : 0 < p) (hc : 0 < c) : 0 ≤ Int.tdiv (c + p - 1) p ∧ Int.tdiv (c + p - 1) p ≤ c := by
  refine ⟨?_, ?_⟩
  · rw [Int.tdiv_eq_ediv_of_nonneg (by omega)]; exact Int.ediv_nonneg (by omega) (by omega)
  · apply Int.le_of_not_gt
    intro h
    have := (ceil_lt hp (by omega) hc).1 h
    have h2 : 1 * c ≤ p * c := Int.mul_le_mul_of_nonneg_right (by omega) (by omega)
    omega
end Go.TM
set_option linter.unusedVariables false
set_option maxRecDepth 100000
namespace Go.Proofs.Ythbinbcgjhnijaa
open Go Go.AM Go.TM Go.Proofs
abbrev DQ : QD := (PKz, (0 : Int))
theorem dn1' {i : Nat} (h0 : 0 < i) (h : i ≤ 9223372036854775807) : IntKind.wrap IntKind.i64 ((i : Int) - 1) = ((i - 1 : Nat) : Int) := by rw [wrap_id (by omega) (by omega)]; omega
theorem l43 (l : List QD) (hl : Len l) (hi0 : Int) (hhi : hi0 ≤ 10000000) : ∀ (k n i : Nat) (last : Int), i + k = l.length → k < n → (i = 0 → last = 0) → (0 < i → last = (l.getD (i - 1) DQ).2 ∧ 0 ≤ last) →
    L43_0_0 n l hi0 (i : Int) = some (cond (lst hi0 last (l.drop i)) (.inr ()) (.inl false)) := by
  intro k
  induction k with
  | zero =>
    intro n i last h1 h2 h3 h4
    cases n with
    | zero => omega
    | succ n =>
      rw [qL43_0_0, decide_eq_false (show ¬ ((i : Int) < (l.length : Int)) by omega), List.drop_of_length_le (show l.length ≤ i by omega)]
      rfl
  | succ k ih =>
    intro n i last h1 h2 h3 h4
    cases n with
    | zero => omega
    | succ n =>
      have hi : i < l.length := by omega
      have hl' : l.length ≤ 9223372036854775807 := hl
      rw [qL43_0_0, decide_eq_true (show (i : Int) < (l.length : Int) by omega), decide_eq_true (show (0 : Int) ≤ (i : Int) by omega), up1 (by omega)]
      simp only [cond_true, Int.toNat_natCast, v27_eq, v26_eq, ok_some, val_some, cond_nb]
      rw [getD_drop hi DQ, lst]
      cases pkOk (l.getD i DQ).1 with
      | false => rfl
      | true =>
        simp only [cond_true]
        have step : 0 ≤ (l.getD i DQ).2 → L43_0_0 n l hi0 ((i + 1 : Nat) : Int) = some (cond (lst hi0 (l.getD i DQ).2 (l.drop (i + 1))) (.inr ()) (.inl false)) := fun h0 => ih n (i + 1) _ (by omega) (by omega) (by omega) fun _ => ⟨by simp, h0⟩
        have hlast : 0 ≤ last := by
          by_cases hz : i = 0
          · rw [h3 hz]; omega
          · exact (h4 (by omega)).2
        by_cases c1 : 0 ≤ (l.getD i DQ).2 ∧ (l.getD i DQ).2 ≤ 10000000
        case neg =>
          rw [decide_eq_false c1, decide_eq_false (show ¬ (last ≤ (l.getD i DQ).2 ∧ (l.getD i DQ).2 ≤ hi0) by omega)]; rfl
        rw [decide_eq_true c1]
        simp only [cond_true]
        by_cases c2 : (l.getD i DQ).2 > hi0
        · rw [decide_eq_true c2, decide_eq_false (show ¬ (last ≤ (l.getD i DQ).2 ∧ (l.getD i DQ).2 ≤ hi0) by omega)]; rfl
        rw [decide_eq_false c2]
        simp only [cond_false]
        by_cases hz : i = 0
        · subst hz
          rw [decide_eq_false (show ¬ ((0 : Nat) : Int) > 0 by omega), decide_eq_true (show last ≤ (l.getD 0 DQ).2 ∧ (l.getD 0 DQ).2 ≤ hi0 by rw [h3 rfl]; omega)]
          simp only [cond_true, cond_false]
          exact step (by omega)
        · obtain ⟨h5, h6⟩ := h4 (by omega)
          rw [decide_eq_true (show (i : Int) > 0 by omega), dn1' (by omega) (by omega), decide_eq_true (show (0 : Int) ≤ ((i - 1 : Nat) : Int) by omega), decide_eq_true (show ((i - 1 : Nat) : Int) < (l.length : Int) by omega)]
          simp only [cond_true, Int.toNat_natCast]
          by_cases c3 : (l.getD i DQ).2 < (l.getD (i - 1) DQ).2
          · rw [decide_eq_true c3, decide_eq_false (show ¬ (last ≤ (l.getD i DQ).2 ∧ (l.getD i DQ).2 ≤ hi0) by omega)]; rfl
          · rw [decide_eq_false c3, decide_eq_true (show last ≤ (l.getD i DQ).2 ∧ (l.getD i DQ).2 ≤ hi0 by omega)]
            simp only [cond_true, cond_false]
            exact step (by omega)
theorem v43_eq (l : List QD) (hl : Len l) (hi0 : Int) (hhi : hi0 ≤ 10000000) : v43 l hi0 = some (lst hi0 0 l) := by
  unfold v43
  have h := l43 l hl hi0 hhi l.length FU 0 0 (by omega) (by have : l.length ≤ 9223372036854775807 := hl; unfold FU; omega) (fun _ => rfl) (fun h => by omega)
  simp only [Int.natCast_zero, List.drop_zero] at h
  rw [h]
  cases lst hi0 0 l <;> rfl
theorem v19_vd (q : Qu) (hf : Len (first q)) : ∃ x, v19 q.k q.a q.b q.c q.room q.ls q.v0 q.v1 q.v2 q.v3 q.v4 q.v5 q.v6 q.v7 q.seed = some x ∧ (x = true → Vd q) := by
  unfold v19
  rw [v26_eq]
  simp only [ok_some, val_some, cond_true, cond_nb]
  have no : ∃ x, some false = some x ∧ (x = true → Vd q) := ⟨false, rfl, fun h => by cases h⟩
  by_cases h1 : q.k = 3
  case neg => rw [show (q.k != (3 : Int)) = true by simpa using h1]; exact no
  rw [show (q.k != (3 : Int)) = false by simpa using h1]
  by_cases h2 : q.a < 0
  case pos => rw [decide_eq_true h2]; exact no
  rw [decide_eq_false h2]
  by_cases h3 : q.a > 1000000
  case pos => rw [decide_eq_true h3]; exact no
  rw [decide_eq_false h3]
  by_cases h4 : q.b < 1
  case pos => rw [decide_eq_true h4]; exact no
  rw [decide_eq_false h4]
  by_cases h5 : q.b > 1000000
  case pos => rw [decide_eq_true h5]; exact no
  rw [decide_eq_false h5]
  by_cases h6 : q.c = 0
  case neg => rw [show (q.c != (0 : Int)) = true by simpa using h6]; exact no
  rw [show (q.c != (0 : Int)) = false by simpa using h6]
  by_cases h7 : q.room < 1
  case pos => rw [decide_eq_true h7]; exact no
  rw [decide_eq_false h7]
  by_cases h8 : q.room > 500
  case pos => rw [decide_eq_true h8]; exact no
  rw [decide_eq_false h8]
  by_cases h9 : q.ls.length = 1
  case neg => rw [show ((q.ls.length : Int) != (1 : Int)) = true by simp; omega]; exact no
  rw [show ((q.ls.length : Int) != (1 : Int)) = false by simp; omega]
  by_cases h10 : q.seed = 0
  case neg => rw [show (q.seed != (0 : Int)) = true by simpa using h10]; exact no
  rw [show (q.seed != (0 : Int)) = false by simpa using h10]
  by_cases h11 : 0 ≤ q.v7 ∧ q.v7 ≤ 10000000
  case neg => rw [decide_eq_false h11]; exact no
  rw [decide_eq_true h11]
  simp only [cond_true, cond_false]
  have w1 : IntKind.wrap IntKind.i64 (q.v7 + q.b) = q.v7 + q.b := wrap_id (by omega) (by omega)
  have w2 : IntKind.wrap IntKind.i64 (q.v7 + q.b + 1) = q.v7 + q.b + 1 := wrap_id (by omega) (by omega)
  have e92 : (0 ≤ q.v0 ∧ q.v0 ≤ q.v7 + q.b + 1) → (0 ≤ q.v1 ∧ q.v1 ≤ 1000000000) → (q.v0 = 0 → q.v1 = 0) → q.v2 = 0 → q.v3 = 0 → q.v4 = 0 → q.v5 = 0 → q.v6 = 0 →
      ∃ x, L19_92_0 q.k q.a q.b q.c q.room q.ls q.v0 q.v1 q.v2 q.v3 q.v4 q.v5 q.v6 q.v7 q.seed = some x ∧ (x = true → Vd q) := by
    intro a0 a1 a01 b2 b3 b4 b5 b6
    unfold L19_92_0
    have e : q.ls.getD (Int.toNat (0 : Int)) [] = first q := rfl
    rw [e, v43_eq _ hf _ h11.2, decide_eq_true (show (0 : Int) < (q.ls.length : Int) by omega)]
    simp only [cond_true, ok_some, val_some]
    by_cases c : ((first q).length : Int) ≤ q.room
    case neg => rw [decide_eq_false c]; exact no
    rw [decide_eq_true c]
    exact ⟨_, rfl, fun hx => ⟨h1, by omega, by omega, h6, by omega, h9, h10, h11, a0, a1, a01, c, b2, b3, b4, b5, b6, hx⟩⟩
  have e52 : (0 ≤ q.v0 ∧ q.v0 ≤ q.v7 + q.b + 1) → (0 ≤ q.v1 ∧ q.v1 ≤ 1000000000) → (q.v0 = 0 → q.v1 = 0) →
      ∃ x, (cond (q.v2 != 0) (some false) (cond (q.v3 != 0) (some false) (cond (q.v4 != 0) (some false) (cond (q.v5 != 0) (some false) (cond (q.v6 != 0) (some false) (cond (ok (L19_92_0 q.k q.a q.b q.c q.room q.ls q.v0 q.v1 q.v2 q.v3 q.v4 q.v5 q.v6 q.v7 q.seed)) (some (val (L19_92_0 q.k q.a q.b q.c q.room q.ls q.v0 q.v1 q.v2 q.v3 q.v4 q.v5 q.v6 q.v7 q.seed))) none)))))) = some x ∧ (x = true → Vd q) := by
    intro a0 a1 a01
    by_cases b2 : q.v2 = 0
    case neg => rw [show (q.v2 != (0 : Int)) = true by simpa using b2]; exact no
    by_cases b3 : q.v3 = 0
    case neg => rw [show (q.v2 != (0 : Int)) = false by simpa using b2, show (q.v3 != (0 : Int)) = true by simpa using b3]; exact no
    by_cases b4 : q.v4 = 0
    case neg => rw [show (q.v2 != (0 : Int)) = false by simpa using b2, show (q.v3 != (0 : Int)) = false by simpa using b3, show (q.v4 != (0 : Int)) = true by simpa using b4]; exact no
    by_cases b5 : q.v5 = 0
    case neg => rw [show (q.v2 != (0 : Int)) = false by simpa using b2, show (q.v3 != (0 : Int)) = false by simpa using b3, show (q.v4 != (0 : Int)) = false by simpa using b4, show (q.v5 != (0 : Int)) = true by simpa using b5]; exact no
    by_cases b6 : q.v6 = 0
    case neg => rw [show (q.v2 != (0 : Int)) = false by simpa using b2, show (q.v3 != (0 : Int)) = false by simpa using b3, show (q.v4 != (0 : Int)) = false by simpa using b4, show (q.v5 != (0 : Int)) = false by simpa using b5, show (q.v6 != (0 : Int)) = true by simpa using b6]; exact no
    rw [show (q.v2 != (0 : Int)) = false by simpa using b2, show (q.v3 != (0 : Int)) = false by simpa using b3, show (q.v4 != (0 : Int)) = false by simpa using b4, show (q.v5 != (0 : Int)) = false by simpa using b5, show (q.v6 != (0 : Int)) = false by simpa using b6]
    obtain ⟨x, hx, hv⟩ := e92 a0 a1 a01 b2 b3 b4 b5 b6
    rw [hx]
    exact ⟨x, rfl, hv⟩
  have e36 : ∃ x, L19_36_0 q.k q.a q.b q.c q.room q.ls q.v0 q.v1 q.v2 q.v3 q.v4 q.v5 q.v6 q.v7 q.seed q.k q.a q.b q.c = some x ∧ (x = true → Vd q) := by
    unfold L19_36_0 L19_52_0 L19_52_1
    rw [w1, w2]
    by_cases a0 : q.v0 < 0
    case pos => rw [decide_eq_true a0]; exact no
    rw [decide_eq_false a0]
    by_cases a1 : q.v0 > q.v7 + q.b + 1
    case pos => rw [decide_eq_true a1]; exact no
    rw [decide_eq_false a1]
    by_cases a2 : q.v1 < 0
    case pos => rw [decide_eq_true a2]; exact no
    rw [decide_eq_false a2]
    by_cases a3 : q.v1 > 1000000000
    case pos => rw [decide_eq_true a3]; exact no
    rw [decide_eq_false a3]
    simp only [cond_false]
    by_cases z : q.v0 = 0
    · rw [show (q.v0 == (0 : Int)) = true by simpa using z]
      by_cases z1 : q.v1 = 0
      · rw [show (q.v1 != (0 : Int)) = false by simpa using z1]
        obtain ⟨x, hx, hv⟩ := e52 (by omega) (by omega) (fun _ => z1)
        simp only [cond_true, cond_false]
        rw [hx]
        exact ⟨x, rfl, hv⟩
      · rw [show (q.v1 != (0 : Int)) = true by simpa using z1]; exact no
    · rw [show (q.v0 == (0 : Int)) = false by simpa using z]
      obtain ⟨x, hx, hv⟩ := e52 (by omega) (by omega) (fun h => absurd h z)
      simp only [cond_false]
      rw [hx]
      exact ⟨x, rfl, hv⟩
  obtain ⟨x, hx, hv⟩ := e36
  rw [hx]
  exact ⟨x, rfl, hv⟩
theorem v17_self (l : List PK) (hl : Len l) : v17 l l = some true := by
  have hl' : l.length ≤ 9223372036854775807 := hl
  have h0 : L17_0_0 FU l l 0 = some (cond ((List.range l.length).all fun _ => true) (.inr ()) (.inl false)) := by
    refine all_loop (m := l.length) hl' (fun n j => L17_0_0 n l l j) _ (fun n i hi => ?_) fun n => ?_
    · show L17_0_0 (n + 1) _ _ _ = _
      rw [qL17_0_0, decide_eq_true (show (i : Int) < (l.length : Int) by omega), decide_eq_true (show (0 : Int) ≤ (i : Int) by omega), up1 (by omega)]
      simp
    · show L17_0_0 (n + 1) _ _ _ = _
      rw [qL17_0_0, decide_eq_false (show ¬ (l.length : Int) < (l.length : Int) by omega)]
      rfl
  unfold v17
  rw [h0, show ((List.range l.length).all fun _ => true) = true by simp]
  simp
theorem v28_self (l : List QD) (hl : Len l) : v28 l l = some true := by
  have hl' : l.length ≤ 9223372036854775807 := hl
  have h0 : L28_0_0 FU l l 0 = some (cond ((List.range l.length).all fun _ => true) (.inr ()) (.inl false)) := by
    refine all_loop (m := l.length) hl' (fun n j => L28_0_0 n l l j) _ (fun n i hi => ?_) fun n => ?_
    · show L28_0_0 (n + 1) _ _ _ = _
      rw [qL28_0_0, decide_eq_true (show (i : Int) < (l.length : Int) by omega), decide_eq_true (show (0 : Int) ≤ (i : Int) by omega), up1 (by omega)]
      simp
    · show L28_0_0 (n + 1) _ _ _ = _
      rw [qL28_0_0, decide_eq_false (show ¬ (l.length : Int) < (l.length : Int) by omega)]
      rfl
  unfold v28
  rw [h0, show ((List.range l.length).all fun _ => true) = true by simp]
  simp
theorem v11_eq (q : Qu) (hl : Len q.ls) : ∃ x, v11 q.k q.a q.b q.c q.room q.ls q.v0 q.v1 q.v2 q.v3 q.v4 q.v5 q.v6 q.v7 q.seed = some x ∧ (x = true → Len (first q)) := by
  have hl' : q.ls.length ≤ 9223372036854775807 := hl
  have h0 : L11_0_0 FU 0 q.k q.a q.b q.c q.room q.ls q.v0 q.v1 q.v2 q.v3 q.v4 q.v5 q.v6 q.v7 q.seed = some (cond ((List.range q.ls.length).all fun i => decide ((q.ls.getD i []).length ≤ 600)) (.inr ()) (.inl false)) := by
    refine all_loop (m := q.ls.length) hl' (fun n j => L11_0_0 n j q.k q.a q.b q.c q.room q.ls q.v0 q.v1 q.v2 q.v3 q.v4 q.v5 q.v6 q.v7 q.seed) _ (fun n i hi => ?_) fun n => ?_
    · show L11_0_0 (n + 1) _ _ _ _ _ _ _ _ _ _ _ _ _ _ _ _ = _
      rw [qL11_0_0, decide_eq_true (show (i : Int) < (q.ls.length : Int) by omega), decide_eq_true (show (0 : Int) ≤ (i : Int) by omega), up1 (by omega)]
      simp only [cond_true, Int.toNat_natCast]
      by_cases c : (q.ls.getD i []).length ≤ 600
      · rw [decide_eq_true c, decide_eq_false (show ¬ (((q.ls.getD i []).length : Int) > 600) by omega)]; rfl
      · rw [decide_eq_false c, decide_eq_true (show (((q.ls.getD i []).length : Int) > 600) by omega)]; rfl
    · show L11_0_0 (n + 1) _ _ _ _ _ _ _ _ _ _ _ _ _ _ _ _ = _
      rw [qL11_0_0, decide_eq_false (show ¬ (q.ls.length : Int) < (q.ls.length : Int) by omega)]
      rfl
  unfold v11
  rw [h0]
  cases ha : (List.range q.ls.length).all fun i => decide ((q.ls.getD i []).length ≤ 600) with
  | false => exact ⟨false, rfl, fun h => by cases h⟩
  | true =>
    refine ⟨_, rfl, fun _ => ?_⟩
    show (q.ls.getD 0 []).length ≤ _
    by_cases h : 0 < q.ls.length
    · have := of_decide_eq_true (List.all_eq_true.1 ha 0 (List.mem_range.2 h))
      omega
    · rw [List.getD_eq_getElem?_getD, List.getElem?_eq_none (by omega)]; simp
theorem v14_err (q : Qu) (now : Int) (hf : Len (first q)) (h : opn q now ≠ 0) : v14 q.k q.a q.b q.c q.room q.ls q.v0 q.v1 q.v2 q.v3 q.v4 q.v5 q.v6 q.v7 q.seed now =
    some (0, 0, 0, 0, 0, [], 0, 0, 0, 0, 0, 0, 0, 0, 0, 0, 0, 0, 0, 0, 0, false, false, false, [], opn q now) := by
  have e := v32_eq q now hf
  rw [decide_eq_false h] at e
  unfold v14
  rw [e]
  simp only [cond_false, isL_inl, getL_inl, cond_true]
  rw [show (opn q now != (0 : Int)) = true by simpa using h]
  rfl
theorem l9_68 (q : Qu) (p : PK) (now : Int) (h : Vd q) (hp : pkOk p = true) (ho : opn q now = 0) (k a b c room seed : Int) (v1 v2 v3 v4 v5 v6 : Int) :
    L9_68_0 now true (cond (decide (((first q).length : Int) ≥ q.room)) [p] []) 0 q.k q.a q.b q.c q.room q.ls q.v0 q.v1 q.v2 q.v3 q.v4 q.v5 q.v6 q.v7 q.seed p.1 p.2.1 p.2.2.1 p.2.2.2.1 p.2.2.2.2.1 p.2.2.2.2.2.1 p.2.2.2.2.2.2.1 p.2.2.2.2.2.2.2
      k a b c room [cond (decide (((first q).length : Int) ≥ q.room)) (first q) (first q ++ [(p, now)])] q.v0 v1 v2 v3 v4 v5 v6 now seed = some true := by
  have hl := h.len
  have hr := h.room
  have h1 := h.one
  have e : q.ls.getD (Int.toNat (0 : Int)) [] = first q := rfl
  have e2 : ∀ z : List QD, ([z] : List (List QD)).getD (Int.toNat (0 : Int)) [] = z := fun z => rfl
  have hlen : (first q).length ≤ 500 := by omega
  unfold L9_68_0 L9_92_0
  rw [e, decide_eq_true (show (0 : Int) < (q.ls.length : Int) by omega), decide_eq_true (show (first q).length ≤ 2147483648 by omega)]
  by_cases c1 : ((first q).length : Int) = q.room
  · rw [decide_eq_true (show ((first q).length : Int) ≥ q.room by omega), show (((first q).length : Int) == q.room) = true by simpa using c1]
    simp only [cond_true, e2]
    have e17 : v17 [p] [(p.1, p.2.1, p.2.2.1, p.2.2.2.1, p.2.2.2.2.1, p.2.2.2.2.2.1, p.2.2.2.2.2.2.1, p.2.2.2.2.2.2.2)] = some true := v17_self [p] (show [p].length ≤ 9223372036854775807 by simp)
    rw [e17, v28_self (first q) (show (first q).length ≤ 9223372036854775807 by omega)]
    simp
  · rw [decide_eq_false (show ¬ ((first q).length : Int) ≥ q.room by omega), show (((first q).length : Int) == q.room) = false by simpa using c1]
    simp only [cond_true, cond_false, e2]
    have e28 := v28_self (first q ++ [(p, now)]) (show (first q ++ [(p, now)]).length ≤ 9223372036854775807 by rw [List.length_append, List.length_singleton]; omega)
    rw [e28, decide_eq_true (show (first q).length + [((p.1, p.2.1, p.2.2.1, p.2.2.2.1, p.2.2.2.2.1, p.2.2.2.2.2.1, p.2.2.2.2.2.2.1, p.2.2.2.2.2.2.2), now)].length ≤ 2147483648 by simp; omega)]
    simp
theorem v9_true (q : Qu) (p : PK) (now : Int) (hls : Len q.ls) : v9 q.k q.a q.b q.c q.room q.ls q.v0 q.v1 q.v2 q.v3 q.v4 q.v5 q.v6 q.v7 q.seed p.1 p.2.1 p.2.2.1 p.2.2.2.1 p.2.2.2.2.1 p.2.2.2.2.2.1 p.2.2.2.2.2.2.1 p.2.2.2.2.2.2.2 now = some true := by
  unfold v9
  obtain ⟨x, hx, hxl⟩ := v11_eq q hls
  rw [hx]
  cases x with
  | false => rfl
  | true =>
    have hf := hxl rfl
    obtain ⟨y, hy, hyv⟩ := v19_vd q hf
    rw [hy, v27_eq, v26_eq]
    simp only [ok_some, val_some, cond_true, cond_nb]
    cases y with
    | false => rfl
    | true =>
      have hv := hyv rfl
      cases hp : pkOk p with
      | false => rfl
      | true =>
        by_cases hn : 0 ≤ now ∧ now ≤ 10000000
        case neg => rw [decide_eq_false hn]; rfl
        rw [decide_eq_true hn]
        simp only [cond_true]
        have hL : L9_36_0 now (val v10) q.k q.a q.b q.c q.room q.ls q.v0 q.v1 q.v2 q.v3 q.v4 q.v5 q.v6 q.v7 q.seed p.1 p.2.1 p.2.2.1 p.2.2.2.1 p.2.2.2.2.1 p.2.2.2.2.2.1 p.2.2.2.2.2.2.1 p.2.2.2.2.2.2.2 = some true := by
          unfold L9_36_0 v10
          rw [v12_eq q p now hf]
          by_cases hc : now < q.v7
          · have ho : opn q now = 18 := by
              unfold opn
              rw [vd_iff.2 hv, decide_eq_true hn, decide_eq_true hc]; rfl
            rw [decide_eq_true hc, v14_err q now hf (by omega)]
            unfold putR L9_60_0
            rw [hp, ho]
            rfl
          · have ho : opn q now = 0 := by
              unfold opn
              rw [vd_iff.2 hv, decide_eq_true hn, decide_eq_false hc]; rfl
            have h68 := l9_68 q p now hv hp ho q.k q.a q.b q.c q.room q.seed q.v1 q.v2 q.v3 q.v4 q.v5 q.v6
            rw [decide_eq_false hc]
            unfold putR
            rw [hp, ho]
            by_cases c1 : ((first q).length : Int) ≥ q.room
            · rw [decide_eq_true c1] at h68 ⊢
              simp only [cond_true, cond_false, decide_true, ok_some, val_some] at h68 ⊢
              rw [h68]; rfl
            · rw [decide_eq_false c1] at h68 ⊢
              simp only [cond_true, cond_false, decide_true, ok_some, val_some] at h68 ⊢
              rw [h68]; rfl
        rw [hL]
        rfl
end Go.Proofs.Ythbinbcgjhnijaa
set_option maxRecDepth 100000
namespace Go.Proofs.Ythbinbcgjhnijaa
open Go Go.ChangeShapes Go.WideShapes Go.ChangeAt Go.RowKit Go.AM Go.TM
theorem own0 : ownKnob Try.prog.godebug = none := by kernel_rfl
theorem laid0 : laidOutB Try.prog = true := by kernel_rfl
abbrev taus : List Ty := [.pair (.pair (.int .i64) (.pair (.int .i64) (.pair (.int .i64) (.int .i64)))) (.pair (.int .i64) (.pair (.list 51 (.list 55 QDy)) (.pair (.pair (.int .i64) (.pair (.int .i64) (.pair (.int .i64) (.pair (.int .i64) (.pair (.int .i64) (.pair (.int .i64) (.pair (.int .i64) (.int .i64)))))))) (.int .u64)))), .pair (.int .i64) (.pair (.int .i64) (.pair (.int .i64) (.pair (.int .i64) (.pair (.int .i64) (.pair (.int .i64) (.pair .bool .bool)))))), .int .i64]
theorem args0 (x : (((Int × (Int × (Int × Int))) × (Int × ((List (List (PKt × Int))) × ((Int × (Int × (Int × (Int × (Int × (Int × (Int × Int))))))) × Int))))) × (PKt) × (Int) × Unit) : argsOf Try.prog Try.f9.params.toList taus x = [.agg [.int .i64 x.1.1.1, .int .i64 x.1.1.2.1, .int .i64 x.1.1.2.2.1, .int .i64 x.1.1.2.2.2, .int .i64 x.1.2.1, .d 51 (.list 55 QDy) x.1.2.2.1, .int .i64 x.1.2.2.2.1.1, .int .i64 x.1.2.2.2.1.2.1, .int .i64 x.1.2.2.2.1.2.2.1, .int .i64 x.1.2.2.2.1.2.2.2.1, .int .i64 x.1.2.2.2.1.2.2.2.2.1, .int .i64 x.1.2.2.2.1.2.2.2.2.2.1, .int .i64 x.1.2.2.2.1.2.2.2.2.2.2.1, .int .i64 x.1.2.2.2.1.2.2.2.2.2.2.2, .int .u64 x.1.2.2.2.2], .agg [.int .i64 x.2.1.1, .int .i64 x.2.1.2.1, .int .i64 x.2.1.2.2.1, .int .i64 x.2.1.2.2.2.1, .int .i64 x.2.1.2.2.2.2.1, .int .i64 x.2.1.2.2.2.2.2.1, .bool x.2.1.2.2.2.2.2.2.1, .bool x.2.1.2.2.2.2.2.2.2], .sc (.int .i64 x.2.2.1)] := by
  kernel_rfl
theorem law_v (x : (((Int × (Int × (Int × Int))) × (Int × ((List (List (PKt × Int))) × ((Int × (Int × (Int × (Int × (Int × (Int × (Int × Int))))))) × Int))))) × (PKt) × (Int) × Unit) (hx : InTup taus x) : v9 x.1.1.1 x.1.1.2.1 x.1.1.2.2.1 x.1.1.2.2.2 x.1.2.1 x.1.2.2.1 x.1.2.2.2.1.1 x.1.2.2.2.1.2.1 x.1.2.2.2.1.2.2.1 x.1.2.2.2.1.2.2.2.1 x.1.2.2.2.1.2.2.2.2.1 x.1.2.2.2.1.2.2.2.2.2.1 x.1.2.2.2.1.2.2.2.2.2.2.1 x.1.2.2.2.1.2.2.2.2.2.2.2 x.1.2.2.2.2 x.2.1.1 x.2.1.2.1 x.2.1.2.2.1 x.2.1.2.2.2.1 x.2.1.2.2.2.2.1 x.2.1.2.2.2.2.2.1 x.2.1.2.2.2.2.2.2.1 x.2.1.2.2.2.2.2.2.2 x.2.2.1 = some true := by
  have h : Len (show List (List QD) from x.1.2.2.1) := (hx.1).2.2.1.1
  exact v9_true ⟨x.1.1.1, x.1.1.2.1, x.1.1.2.2.1, x.1.1.2.2.2, x.1.2.1, x.1.2.2.1, x.1.2.2.2.1.1, x.1.2.2.2.1.2.1, x.1.2.2.2.1.2.2.1, x.1.2.2.2.1.2.2.2.1, x.1.2.2.2.1.2.2.2.2.1, x.1.2.2.2.1.2.2.2.2.2.1, x.1.2.2.2.1.2.2.2.2.2.2.1, x.1.2.2.2.1.2.2.2.2.2.2.2, x.1.2.2.2.2⟩ x.2.1 x.2.2.1 h
theorem law_run : ∀ x : Tup taus, InTup taus x → ∃ k H', TM.evF Try.prog (mkTn base o50 t50) dOk k 9 (argsOf Try.prog Try.f9.params.toList taus x) [] = some ([.sc (.bool true)], H') := by
  intro x hx
  have e := args0 x
  rw [e]
  refine ⟨41, [], ?_⟩
  rw [fn_eq (by kernel_rfl), ev9, law_v x hx]
  rfl
theorem law_lifted (os : Os) (started : os.Started) (H : Type) (enc : TypeId × Value → H) :
    ReturnsInHanded {} Try.checked os 9 .any (Rows.sojournRoomSpec.pre6 enc Try.prog Try.f9 Rows.sojournRoomRow.domain false) (Rows.sojournRoomSpec.post enc Try.prog Try.f9 false true false false) :=
  law_tm (C := Try.checked) (τs := taus) (tb := 4) (base := base) (O := o50) (T := t50) own0 started (by kernel_rfl) Try.func9
    (ChangeSpec.witness6 (enc := enc) (C := Try.checked) false ⟨#[], #[.agg #[.int .i64 0, .int .i64 0, .int .i64 0, .int .i64 0, .int .i64 0, .slice none 0 0, .int .i64 0, .int .i64 0, .int .i64 0, .int .i64 0, .int .i64 0, .int .i64 0, .int .i64 0, .int .i64 0, .int .u64 0], .agg #[.int .i64 0, .int .i64 0, .int .i64 0, .int .i64 0, .int .i64 0, .int .i64 0, .bool false, .bool false], .int .i64 0], []⟩ 8 (by kernel_rfl) (by kernel_rfl) (by kernel_rfl) (by kernel_rfl))
    laid0 (by kernel_rfl) (by kernel_rfl) rfl (by kernel_rfl) names mixed ok50 (by kernel_rfl) (by kernel_rfl)
    (fun ds h => by
      match ds, h with
      | [_, _, _], _ => rfl)
    law_run
theorem sojournRoom_holds : Rows.SojournRoomSaid :=
  OpenClaim.holds_of_wide 9 Try.f9 rfl rfl rfl rfl rfl rfl rfl ⟨rfl, rfl, rfl, rfl, rfl⟩ rfl rfl rfl rfl rfl (by kernel_rfl) Try.func9 (by kernel_rfl)
    (of_decide_eq_true (by kernel_rfl)) (by unfold Func.isWrapper; first | (rw [if_pos (by decide +kernel)]; kernel_rfl) | (rw [if_neg (by decide +kernel)]; exact ⟨rfl, rfl⟩))
    (fun os started H enc _ => law_lifted os started H enc)
end Go.Proofs.Ythbinbcgjhnijaa
