/- SojournMatchesReference: it returns true at every input; no conditions. -/
import Derived.Test.YthbinbcgjhnijaaG4
import Derived.Test.YthbinbcgjhnijaaRows
import Derived.ProofKit
set_option linter.all false
namespace Go.Proofs.Ythbinbcgjhnijaa
open Go Go.AM Go.TM Go.Proofs
@[simp] theorem ok_some {α : Type} (x : α) : ok (some x) = true := rfl
@[simp] theorem val_some {α : Type} [Inhabited α] (x : α) : val (some x) = x := rfl
@[simp] theorem isL_inl {α β : Type} (x : α) : isL (some (.inl x : α ⊕ β)) = true := rfl
@[simp] theorem isL_inr {α β : Type} (x : β) : isL (some (.inr x : α ⊕ β)) = false := rfl
@[simp] theorem getL_inl {α β : Type} [Inhabited α] (x : α) : zb (some (.inl x : α ⊕ β)) = x := rfl
@[simp] theorem getR_inr {α β : Type} (x : β) : za (some (.inr x : α ⊕ β)) = some x := rfl
theorem cond_nb {α : Type} (b : Bool) (x y : α) : cond (!b) x y = cond b y x := by cases b <;> rfl
theorem wrap_id {x : Int} (h1 : -9223372036854775808 ≤ x) (h2 : x ≤ 9223372036854775807) : IntKind.wrap IntKind.i64 x = x := by
  simp [IntKind.wrap, IntKind.bits, IntKind.signed]
  omega
theorem up1 {i : Nat} (h : i < 9223372036854775807) : IntKind.wrap IntKind.i64 ((i : Int) + 1) = ((i + 1 : Nat) : Int) := by rw [wrap_id (by omega) (by omega)]; omega
theorem getD_drop {α : Type} {l : List α} {i : Nat} (h : i < l.length) (d : α) : l.drop i = l.getD i d :: l.drop (i + 1) := by
  rw [List.drop_eq_getElem_cons h]
  congr 1
  simp [List.getD, List.getElem?_eq_getElem h]
abbrev Len {α : Type} (l : List α) : Prop := l.length ≤ 9223372036854775807
theorem and_cond (p q : Prop) [Decidable p] [Decidable q] : cond (decide p) (some (decide q)) (some false) = some (decide (p ∧ q)) := by
  by_cases h : p <;> simp [h]
theorem beq_dec (x y : Int) : (x == y) = decide (x = y) := rfl
abbrev PK := Int × Int × Int × Int × Int × Int × Bool × Bool
abbrev QD := PK × Int
def pkOk (p : PK) : Bool := decide ((0 ≤ p.1 ∧ p.1 ≤ 7) ∧ (0 ≤ p.2.1 ∧ p.2.1 ≤ 3) ∧ (0 ≤ p.2.2.1 ∧ p.2.2.1 ≤ 1000000000) ∧ (0 ≤ p.2.2.2.1 ∧ p.2.2.2.1 ≤ 1000000000) ∧ (1 ≤ p.2.2.2.2.1 ∧ p.2.2.2.2.1 ≤ 10000) ∧ (0 ≤ p.2.2.2.2.2.1 ∧ p.2.2.2.2.2.1 ≤ 10000000))
theorem v39_eq (a b c : Int) : v39 a b c = some (decide (b ≤ a ∧ a ≤ c)) := by
  unfold v39; rw [and_cond]
theorem v40_eq (a : Int) : v40 a = some (decide (0 ≤ a ∧ a ≤ 10000000)) := by
  unfold v40; simp only [v39_eq, ok_some, val_some, cond_true]
theorem v26_eq (a : Int) : v26 a = some (decide (0 ≤ a ∧ a ≤ 10000000)) := by
  unfold v26; rw [and_cond]
theorem v44_eq (a : Int) : v44 a = some (decide (0 ≤ a ∧ a ≤ 1000000000)) := by
  unfold v44; rw [and_cond]
theorem v31_eq (p : PK) : v31 p.1 p.2.1 p.2.2.1 p.2.2.2.1 p.2.2.2.2.1 p.2.2.2.2.2.1 p.2.2.2.2.2.2.1 p.2.2.2.2.2.2.2 = some (pkOk p) := by
  unfold v31 pkOk
  simp only [v39_eq, v40_eq, ok_some, val_some, cond_true, and_cond]
theorem v27_eq (p : PK) : v27 p.1 p.2.1 p.2.2.1 p.2.2.2.1 p.2.2.2.2.1 p.2.2.2.2.2.1 p.2.2.2.2.2.2.1 p.2.2.2.2.2.2.2 = some (pkOk p) := by
  unfold v27 pkOk
  simp only [v44_eq, v26_eq, ok_some, val_some, cond_true, and_cond]
  congr 1
  apply decide_eq_decide.2
  constructor <;> intro h <;> omega
theorem l45 (l : List Int) (hl : Len l) : ∀ (k n i : Nat), i + k = l.length → k < n →
    (∃ j : Nat, Lak n l (l.length : Int) (i : Int) = some (.inl (j : Int)) ∧ (l.drop i).any (· != 0) = true) ∨ (Lak n l (l.length : Int) (i : Int) = some (.inr ()) ∧ (l.drop i).any (· != 0) = false) := by
  intro k
  induction k with
  | zero =>
    intro n i h1 h2
    cases n with
    | zero => omega
    | succ n =>
      rw [qLak, decide_eq_false (show ¬ ((i : Int) < (l.length : Int)) by omega), List.drop_of_length_le (show l.length ≤ i by omega)]
      exact .inr ⟨rfl, rfl⟩
  | succ k ih =>
    intro n i h1 h2
    cases n with
    | zero => omega
    | succ n =>
      have hi : i < l.length := by omega
      rw [qLak, decide_eq_true (show (i : Int) < (l.length : Int) by omega), decide_eq_true (show (0 : Int) ≤ (i : Int) by omega), up1 (by have : l.length ≤ 9223372036854775807 := hl; omega)]
      simp only [cond_true, Int.toNat_natCast, v42, val_some]
      rw [getD_drop hi 0]
      cases hb : (l.getD i 0 != 0) with
      | true => exact .inl ⟨i, rfl, by simp only [List.any_cons, hb, Bool.true_or]⟩
      | false =>
        simp only [cond_false, List.any_cons, hb, Bool.false_or]
        exact ih n (i + 1) (by omega) (by omega)
theorem v41_eq (l : List Int) (hl : Len l) : v41 l = some (l.any (· != 0)) := by
  unfold v41 v45
  rcases l45 l hl l.length FU 0 (by omega) (by have : l.length ≤ 9223372036854775807 := hl; unfold FU; omega) with ⟨j, h, hx⟩ | ⟨h, hx⟩
  · simp only [Int.natCast_zero, List.drop_zero] at h hx
    rw [h, hx]
    simp
  · simp only [Int.natCast_zero, List.drop_zero] at h hx
    rw [h, hx]
    simp
def lst (hi : Int) : Int → List QD → Bool
  | _, [] => true
  | last, w :: r => cond (pkOk w.1) (cond (decide (last ≤ w.2 ∧ w.2 ≤ hi)) (lst hi w.2 r) false) false
theorem l18 (l : List QD) (hl : Len l) (x4 x5 x6 x7 x8 x9 x10 hi0 : Int) : ∀ (k n i : Nat) (last : Int), i + k = l.length → k < n →
    Lam n last l (l.length : Int) (i : Int) x4 x5 x6 x7 x8 x9 x10 hi0 = some (cond (lst hi0 last (l.drop i)) (.inr ()) (.inl false)) := by
  intro k
  induction k with
  | zero =>
    intro n i last h1 h2
    cases n with
    | zero => omega
    | succ n =>
      rw [qLam, decide_eq_false (show ¬ ((i : Int) < (l.length : Int)) by omega), List.drop_of_length_le (show l.length ≤ i by omega)]
      rfl
  | succ k ih =>
    intro n i last h1 h2
    cases n with
    | zero => omega
    | succ n =>
      have hi : i < l.length := by omega
      rw [qLam, decide_eq_true (show (i : Int) < (l.length : Int) by omega), decide_eq_true (show (0 : Int) ≤ (i : Int) by omega), up1 (by have : l.length ≤ 9223372036854775807 := hl; omega)]
      simp only [cond_true, Int.toNat_natCast, v31_eq, v39_eq, ok_some, val_some, cond_nb]
      rw [getD_drop hi (PKz, (0 : Int)), lst, ih n (i + 1) _ (by omega) (by omega)]
      cases pkOk (l.getD i (PKz, (0 : Int))).1 with
      | false => rfl
      | true =>
        simp only [cond_true]
        cases decide (last ≤ (l.getD i (PKz, (0 : Int))).2 ∧ (l.getD i (PKz, (0 : Int))).2 ≤ hi0) <;> rfl
structure Qu where
  k : Int
  a : Int
  b : Int
  c : Int
  room : Int
  ls : List (List QD)
  v0 : Int
  v1 : Int
  v2 : Int
  v3 : Int
  v4 : Int
  v5 : Int
  v6 : Int
  v7 : Int
  seed : Int
def first (q : Qu) : List QD := q.ls.getD 0 []
structure Vd (q : Qu) : Prop where
  k : q.k = 3
  a : 0 ≤ q.a ∧ q.a ≤ 1000000
  b : 1 ≤ q.b ∧ q.b ≤ 1000000
  c : q.c = 0
  room : 1 ≤ q.room ∧ q.room ≤ 500
  one : q.ls.length = 1
  seed : q.seed = 0
  v7 : 0 ≤ q.v7 ∧ q.v7 ≤ 10000000
  v0 : 0 ≤ q.v0 ∧ q.v0 ≤ q.v7 + q.b + 1
  v1 : 0 ≤ q.v1 ∧ q.v1 ≤ 1000000000
  v01 : q.v0 = 0 → q.v1 = 0
  len : ((first q).length : Int) ≤ q.room
  v2 : q.v2 = 0
  v3 : q.v3 = 0
  v4 : q.v4 = 0
  v5 : q.v5 = 0
  v6 : q.v6 = 0
  lst : lst q.v7 0 (first q) = true
def vd (q : Qu) : Bool := decide (q.k = 3 ∧ (0 ≤ q.a ∧ q.a ≤ 1000000) ∧ (1 ≤ q.b ∧ q.b ≤ 1000000) ∧ q.c = 0 ∧ (1 ≤ q.room ∧ q.room ≤ 500) ∧ q.ls.length = 1 ∧ q.seed = 0 ∧ (0 ≤ q.v7 ∧ q.v7 ≤ 10000000) ∧
  (0 ≤ q.v0 ∧ q.v0 ≤ q.v7 + q.b + 1) ∧ (0 ≤ q.v1 ∧ q.v1 ≤ 1000000000) ∧ (q.v0 = 0 → q.v1 = 0) ∧ ((first q).length : Int) ≤ q.room ∧ (q.v2 = 0 ∧ q.v3 = 0 ∧ q.v4 = 0 ∧ q.v5 = 0 ∧ q.v6 = 0) ∧ lst q.v7 0 (first q) = true)
theorem vd_iff {q : Qu} : vd q = true ↔ Vd q := by
  unfold vd
  rw [decide_eq_true_iff]
  constructor
  · rintro ⟨h1, h2, h3, h4, h5, h6, h7, h8, h9, h10, h11, h12, ⟨h13, h14, h15, h16, h17⟩, h18⟩
    exact ⟨h1, h2, h3, h4, h5, h6, h7, h8, h9, h10, h11, h12, h13, h14, h15, h16, h17, h18⟩
  · rintro ⟨h1, h2, h3, h4, h5, h6, h7, h8, h9, h10, h11, h12, h13, h14, h15, h16, h17, h18⟩
    exact ⟨h1, h2, h3, h4, h5, h6, h7, h8, h9, h10, h11, h12, ⟨h13, h14, h15, h16, h17⟩, h18⟩
theorem L18_68_eq (q : Qu) (hf : Len (first q)) (h1 : q.ls.length = 1) (y0 y1 y2 y3 y4 y5 y6 y7 : Int) : Lau q.k q.a q.b q.c q.room q.ls q.v0 q.v1 q.v2 q.v3 q.v4 q.v5 q.v6 q.v7 q.seed y0 y1 y2 y3 y4 y5 y6 y7 = some (lst y7 0 (first q)) := by
  unfold Lau
  rw [decide_eq_true (show (0 : Int) < (q.ls.length : Int) by omega)]
  have h := l18 (first q) hf y0 y1 y2 y3 y4 y5 y6 y7 (first q).length FU 0 0 (by omega) (by have : (first q).length ≤ 9223372036854775807 := hf; unfold FU; omega)
  simp only [Int.natCast_zero, List.drop_zero] at h
  have e : q.ls.getD (Int.toNat (0 : Int)) [] = first q := rfl
  rw [e, h]
  cases lst y7 0 (first q) <;> rfl
theorem v18_eq (q : Qu) (hf : Len (first q)) : v18 q.k q.a q.b q.c q.room q.ls q.v0 q.v1 q.v2 q.v3 q.v4 q.v5 q.v6 q.v7 q.seed = some (vd q) := by
  cases h : vd q with
  | true =>
    have hv := vd_iff.1 h
    obtain ⟨h1, h2, h3, h4, h5, h6, h7, h8, h9, h10, h11, h12, h13, h14, h15, h16, h17, h18⟩ := hv
    unfold v18 Las Lap
    have e : q.ls.getD (Int.toNat (0 : Int)) [] = first q := rfl
    have w1 : IntKind.wrap IntKind.i64 (q.v7 + q.b) = q.v7 + q.b := wrap_id (by omega) (by omega)
    have w2 : IntKind.wrap IntKind.i64 (q.v7 + q.b + 1) = q.v7 + q.b + 1 := wrap_id (by omega) (by omega)
    have e5 : v41 [q.v2, q.v3, q.v4, q.v5, q.v6] = some false := by
      rw [v41_eq _ (by simp)]; simp [h13, h14, h15, h16, h17]
    simp only [v39_eq, v40_eq, w1, w2, ok_some, val_some, cond_true, cond_nb, e5, e, L18_68_eq q hf h6, h18]
    rw [h1, h4, h6, h7]
    rw [decide_eq_true h2, decide_eq_true h3, decide_eq_true h5, decide_eq_true h8, decide_eq_true h9, decide_eq_true h10]
    rw [decide_eq_false (show ¬ (((first q).length : Int) > q.room) by omega)]
    by_cases z : q.v0 = 0
    · rw [z, h11 z]; rfl
    · have : (q.v0 == (0 : Int)) = false := by simpa using z
      rw [this]; rfl
  | false =>
    have hv : ¬ Vd q := fun hv => by rw [vd_iff.2 hv] at h; cases h
    unfold v18
    simp only [v39_eq, ok_some, val_some, cond_true, cond_nb]
    by_cases h1 : q.k = 3
    case neg => have : (q.k != (3 : Int)) = true := by simpa using h1
                rw [this]; rfl
    by_cases h2 : 0 ≤ q.a ∧ q.a ≤ 1000000
    case neg => rw [decide_eq_false h2, h1]; rfl
    by_cases h3 : 1 ≤ q.b ∧ q.b ≤ 1000000
    case neg => rw [decide_eq_true h2, decide_eq_false h3, h1]; rfl
    by_cases h4 : q.c = 0
    case neg => have : (q.c != (0 : Int)) = true := by simpa using h4
                rw [decide_eq_true h2, decide_eq_true h3, h1, this]; rfl
    by_cases h5 : 1 ≤ q.room ∧ q.room ≤ 500
    case neg => rw [decide_eq_true h2, decide_eq_true h3, h1, h4, decide_eq_false h5]; rfl
    by_cases h6 : q.ls.length = 1
    case neg => have : ((q.ls.length : Int) != (1 : Int)) = true := by simp; omega
                rw [decide_eq_true h2, decide_eq_true h3, h1, h4, decide_eq_true h5, this]; rfl
    by_cases h7 : q.seed = 0
    case neg => have : (q.seed != (0 : Int)) = true := by simpa using h7
                rw [decide_eq_true h2, decide_eq_true h3, h1, h4, decide_eq_true h5, h6, this]; rfl
    have main : Las q.k q.a q.b q.c q.room q.ls q.v0 q.v1 q.v2 q.v3 q.v4 q.v5 q.v6 q.v7 q.seed q.k q.a q.b q.c q.v0 q.v1 q.v2 q.v3 q.v4 q.v5 q.v6 q.v7 = some false := by
      unfold Las
      simp only [v39_eq, v40_eq, ok_some, val_some, cond_true, cond_nb]
      by_cases h8 : 0 ≤ q.v7 ∧ q.v7 ≤ 10000000
      case neg => rw [decide_eq_false h8]; rfl
      have w1 : IntKind.wrap IntKind.i64 (q.v7 + q.b) = q.v7 + q.b := wrap_id (by omega) (by omega)
      have w2 : IntKind.wrap IntKind.i64 (q.v7 + q.b + 1) = q.v7 + q.b + 1 := wrap_id (by omega) (by omega)
      rw [w1, w2, decide_eq_true h8]
      simp only [cond_true]
      by_cases h9 : 0 ≤ q.v0 ∧ q.v0 ≤ q.v7 + q.b + 1
      case neg => rw [decide_eq_false h9]; rfl
      by_cases h10 : 0 ≤ q.v1 ∧ q.v1 ≤ 1000000000
      case neg => rw [decide_eq_true h9, decide_eq_false h10]; rfl
      rw [decide_eq_true h9, decide_eq_true h10]
      simp only [cond_true]
      have rest : (cond (decide (0 < (q.ls.length : Int))) (cond (decide (((q.ls.getD (Int.toNat (0 : Int)) []).length : Int) > q.room)) (some false) (cond (ok (Lap q.k q.a q.b q.c q.room q.ls q.v0 q.v1 q.v2 q.v3 q.v4 q.v5 q.v6 q.v7 q.seed q.v0 q.v1 q.v2 q.v3 q.v4 q.v5 q.v6 q.v7)) (some (val (Lap q.k q.a q.b q.c q.room q.ls q.v0 q.v1 q.v2 q.v3 q.v4 q.v5 q.v6 q.v7 q.seed q.v0 q.v1 q.v2 q.v3 q.v4 q.v5 q.v6 q.v7))) none)) none) = some false ∨ (q.v0 = 0 ∧ q.v1 ≠ 0) := by
        by_cases h11 : q.v0 = 0 → q.v1 = 0
        case neg => exact .inr (Classical.not_imp.1 h11)
        left
        rw [decide_eq_true (show (0 : Int) < (q.ls.length : Int) by omega)]
        have e : q.ls.getD (Int.toNat (0 : Int)) [] = first q := rfl
        rw [e]
        by_cases h12 : ((first q).length : Int) ≤ q.room
        case neg => rw [decide_eq_true (show ((first q).length : Int) > q.room by omega)]; rfl
        rw [decide_eq_false (show ¬ ((first q).length : Int) > q.room by omega)]
        simp only [cond_true, cond_false]
        unfold Lap
        rw [v41_eq _ (by simp), L18_68_eq q hf h6]
        simp only [ok_some, val_some, cond_true]
        cases hz : [q.v2, q.v3, q.v4, q.v5, q.v6].any (· != 0) with
        | true => rfl
        | false =>
          simp only [cond_false]
          cases hl : lst q.v7 0 (first q) with
          | false => rfl
          | true =>
            simp at hz
            exact absurd ⟨h1, h2, h3, h4, h5, h6, h7, h8, h9, h10, h11, h12, hz.1, hz.2.1, hz.2.2.1, hz.2.2.2.1, hz.2.2.2.2, hl⟩ hv
      rcases rest with hr | ⟨z0, z1⟩
      · rw [hr]
        by_cases z : q.v0 = 0
        · rw [z]
          by_cases z2 : q.v1 = 0
          · rw [z2]; rfl
          · have : (q.v1 != (0 : Int)) = true := by simpa using z2
            rw [this]; rfl
        · have : (q.v0 == (0 : Int)) = false := by simpa using z
          rw [this]; rfl
      · have : (q.v1 != (0 : Int)) = true := by simpa using z1
        rw [z0, this]; rfl
    rw [decide_eq_true h2, decide_eq_true h3, decide_eq_true h5, main, h1, h4, h6, h7]; rfl
end Go.Proofs.Ythbinbcgjhnijaa
set_option maxRecDepth 100000
namespace Go.Proofs.Ythbinbcgjhnijaa
open Go Go.AM Go.TM Go.Proofs
theorem copy_all {α : Type} (l : List α) (x : α) : List.take (List.length (List.replicate (Int.toNat (l.length : Int)) x)) l ++ List.drop l.length (List.replicate (Int.toNat (l.length : Int)) x) = l := by
  simp
def opn (q : Qu) (now : Int) : Int := cond (vd q) (cond (decide (0 ≤ now ∧ now ≤ 10000000)) (cond (decide (now < q.v7)) 18 0) 1) 1
theorem len_first {q : Qu} (h : vd q = true) : (first q).length ≤ 500 := by
  have hv := vd_iff.1 h
  have h1 := hv.len
  have h2 := hv.room
  omega
theorem v32_eq (q : Qu) (now : Int) (hf : Len (first q)) : v32 q.k q.a q.b q.c q.room q.ls q.v0 q.v1 q.v2 q.v3 q.v4 q.v5 q.v6 q.v7 q.seed now = some (cond (decide (opn q now = 0)) (.inr (0, first q)) (.inl (opn q now))) := by
  unfold v32 opn
  rw [v18_eq q hf, v40_eq]
  simp only [ok_some, val_some, cond_true, cond_nb]
  cases h : vd q with
  | false => rfl
  | true =>
    have hl := len_first h
    have hv := vd_iff.1 h
    simp only [cond_true]
    by_cases h1 : 0 ≤ now ∧ now ≤ 10000000
    case neg => rw [decide_eq_false h1]; rfl
    rw [decide_eq_true h1]
    simp only [cond_true]
    by_cases h2 : now < q.v7
    case pos => rw [decide_eq_true h2]; rfl
    rw [decide_eq_false h2, decide_eq_true (show (0 : Int) < (q.ls.length : Int) by rw [hv.one]; decide)]
    have e : q.ls.getD (Int.toNat (0 : Int)) [] = first q := rfl
    have w : IntKind.wrap IntKind.i64 (((first q).length : Int) + 1) = ((first q).length : Int) + 1 := wrap_id (by omega) (by omega)
    rw [e, w, decide_eq_true (show ((first q).length : Int) ≤ ((first q).length : Int) + 1 by omega), decide_eq_true (show ((first q).length : Int) + 1 ≤ ((2147483648 : Nat) : Int) by omega), copy_all]
    rfl
abbrev QT := Int × Int × Int × Int × Int × List (List QD) × Int × Int × Int × Int × Int × Int × Int × Int × Int
def putR (q : Qu) (p : PK) (now : Int) : Int × Int × Int × Int × Int × List (List QD) × Int × Int × Int × Int × Int × Int × Int × Int × Int × List PK × Int :=
  cond (pkOk p) (cond (decide (opn q now = 0))
    (cond (decide (((first q).length : Int) ≥ q.room))
      (q.k, q.a, q.b, q.c, q.room, [first q], q.v0, q.v1, q.v2, q.v3, q.v4, q.v5, q.v6, now, q.seed, [p], 0)
      (q.k, q.a, q.b, q.c, q.room, [first q ++ [(p, now)]], q.v0, q.v1, q.v2, q.v3, q.v4, q.v5, q.v6, now, q.seed, [], 0))
    (0, 0, 0, 0, 0, [], 0, 0, 0, 0, 0, 0, 0, 0, 0, [], opn q now))
   (0, 0, 0, 0, 0, [], 0, 0, 0, 0, 0, 0, 0, 0, 0, [], 1)
theorem opn_vd {q : Qu} {now : Int} (h : opn q now = 0) : vd q = true ∧ 0 ≤ now ∧ now ≤ 10000000 ∧ q.v7 ≤ now := by
  unfold opn at h
  cases hv : vd q with
  | false => rw [hv] at h; cases h
  | true =>
    rw [hv] at h
    simp only [cond_true] at h
    by_cases h1 : 0 ≤ now ∧ now ≤ 10000000
    case neg => rw [decide_eq_false h1] at h; cases h
    rw [decide_eq_true h1] at h
    simp only [cond_true] at h
    by_cases h2 : now < q.v7
    case pos => rw [decide_eq_true h2] at h; cases h
    exact ⟨rfl, h1.1, h1.2, by omega⟩
theorem L12_28_eq (q : Qu) (p : PK) (now : Int) (hf : Len (first q)) : Lac now q.k q.a q.b q.c q.room q.ls q.v0 q.v1 q.v2 q.v3 q.v4 q.v5 q.v6 q.v7 q.seed p.1 p.2.1 p.2.2.1 p.2.2.2.1 p.2.2.2.2.1 p.2.2.2.2.2.1 p.2.2.2.2.2.2.1 p.2.2.2.2.2.2.2 0 0 0 0 0 0 0 0 0 0 0 0 0 0 [] =
    some (cond (decide (opn q now = 0)) (cond (decide (((first q).length : Int) ≥ q.room)) (.inr (.inl (0, [p], first q))) (.inr (.inr (0, first q ++ [(p, now)])))) (.inl (opn q now, 0, 0, 0, 0, 0, 0, 0, 0, 0, 0, 0, 0, 0, 0))) := by
  unfold Lac
  rw [v32_eq q now hf]
  by_cases h : opn q now = 0
  · have hl := len_first (opn_vd h).1
    rw [decide_eq_true h]
    simp only [cond_true, isL_inr, getR_inr, ok_some, val_some, cond_false]
    unfold Laf Lar
    by_cases h1 : ((first q).length : Int) ≥ q.room
    · rw [decide_eq_true h1]; rfl
    · rw [decide_eq_false h1, decide_eq_true (show (first q).length + [((p.1, p.2.1, p.2.2.1, p.2.2.2.1, p.2.2.2.2.1, p.2.2.2.2.2.1, p.2.2.2.2.2.2.1, p.2.2.2.2.2.2.2), now)].length ≤ 2147483648 by simp; omega)]
      rfl
  · rw [decide_eq_false h]
    simp only [cond_false, isL_inl, getL_inl, cond_true]
    have : (opn q now != (0 : Int)) = true := by simpa using h
    rw [this]; rfl
theorem v12_eq (q : Qu) (p : PK) (now : Int) (hf : Len (first q)) : v12 q.k q.a q.b q.c q.room q.ls q.v0 q.v1 q.v2 q.v3 q.v4 q.v5 q.v6 q.v7 q.seed p.1 p.2.1 p.2.2.1 p.2.2.2.1 p.2.2.2.2.1 p.2.2.2.2.2.1 p.2.2.2.2.2.2.1 p.2.2.2.2.2.2.2 now = some (putR q p now) := by
  unfold v12 putR
  rw [v31_eq, L12_28_eq q p now hf]
  simp only [ok_some, val_some, cond_true, cond_nb]
  cases pkOk p with
  | false => rfl
  | true =>
    by_cases h : opn q now = 0
    · rw [decide_eq_true h]
      simp only [cond_true]
      by_cases h1 : ((first q).length : Int) ≥ q.room
      · rw [decide_eq_true h1]; rfl
      · rw [decide_eq_false h1]; rfl
    · rw [decide_eq_false h]; rfl
end Go.Proofs.Ythbinbcgjhnijaa
namespace Go.TM
open Go Go.AM
@[simp] theorem ok_some {α : Type} (x : α) : ok (some x) = true := rfl
@[simp] theorem val_some {α : Type} [Inhabited α] (x : α) : val (some x) = x := rfl
@[simp] theorem isL_inl {α β : Type} (x : α) : isL (some (.inl x : α ⊕ β)) = true := rfl
@[simp] theorem isL_inr {α β : Type} (x : β) : isL (some (.inr x : α ⊕ β)) = false := rfl
@[simp] theorem getL_inl {α β : Type} [Inhabited α] (x : α) : zb (some (.inl x : α ⊕ β)) = x := rfl
@[simp] theorem getR_inr {α β : Type} (x : β) : za (some (.inr x : α ⊕ β)) = some x := rfl
theorem cond_nb {α : Type} (b : Bool) (x y : α) : cond (!b) x y = cond b y x := by cases b <;> rfl
theorem wrap_id {x : Int} (h1 : -9223372036854775808 ≤ x) (h2 : x ≤ 9223372036854775807) : IntKind.wrap IntKind.i64 x = x := by
  simp [IntKind.wrap, IntKind.bits, IntKind.signed]
  omega
theorem up1 {i : Nat} (h : i < 9223372036854775807) : IntKind.wrap IntKind.i64 ((i : Int) + 1) = ((i + 1 : Nat) : Int) := by rw [wrap_id (by omega) (by omega)]; omega
theorem getD_drop {α : Type} {l : List α} {i : Nat} (h : i < l.length) (d : α) : l.drop i = l.getD i d :: l.drop (i + 1) := by
  rw [List.drop_eq_getElem_cons h]
  congr 1
  simp [List.getD, List.getElem?_eq_getElem h]
abbrev Len {α : Type} (l : List α) : Prop := l.length ≤ 9223372036854775807
theorem and_cond (p q : Prop) [Decidable p] [Decidable q] : cond (decide p) (some (decide q)) (some false) = some (decide (p ∧ q)) := by
  by_cases h : p <;> simp [h]
theorem beq_dec (x y : Int) : (x == y) = decide (x = y) := rfl
theorem all_loop {m : Nat} (hm : m ≤ 9223372036854775807) (F : Nat → Int → Option (Bool ⊕ Unit)) (g : Nat → Bool)
    (hs : ∀ n (i : Nat), i < m → F (n + 1) (i : Int) = cond (g i) (F n ((i + 1 : Nat) : Int)) (some (.inl false))) (he : ∀ n, F (n + 1) (m : Int) = some (.inr ())) :
    F FU 0 = some (cond ((List.range m).all g) (.inr ()) (.inl false)) := by
  have key : ∀ (k n i : Nat), i + k = m → k < n → F n (i : Int) = some (cond ((List.range' i k).all g) (.inr ()) (.inl false)) := by
    intro k
    induction k with
    | zero =>
      intro n i h1 h2
      cases n with
      | zero => omega
      | succ n =>
        have : i = m := by omega
        subst this
        rw [he]; rfl
    | succ k ih =>
      intro n i h1 h2
      cases n with
      | zero => omega
      | succ n =>
        rw [hs n i (by omega), ih n (i + 1) (by omega) (by omega), List.range'_succ, List.all_cons]
        cases g i <;> rfl
  have := key m FU 0 (by omega) (by unfold FU; omega)
  rw [List.range_eq_range']
  exact this
def sumN : Nat → (Nat → Int) → Int
  | 0, _ => 0
  | n + 1, f => sumN n f + f n
end Go.TM
set_option maxRecDepth 100000
namespace Go.Proofs.Ythbinbcgjhnijaa
open Go Go.AM Go.TM Go.Proofs
abbrev DQ : QD := (PKz, (0 : Int))
theorem dn1' {i : Nat} (h0 : 0 < i) (h : i ≤ 9223372036854775807) : IntKind.wrap IntKind.i64 ((i : Int) - 1) = ((i - 1 : Nat) : Int) := by rw [wrap_id (by omega) (by omega)]; omega
theorem l43 (l : List QD) (hl : Len l) (hi0 : Int) (hhi : hi0 ≤ 10000000) : ∀ (k n i : Nat) (last : Int), i + k = l.length → k < n → (i = 0 → last = 0) → (0 < i → last = (l.getD (i - 1) DQ).2 ∧ 0 ≤ last) →
    Laj n l hi0 (i : Int) = some (cond (lst hi0 last (l.drop i)) (.inr ()) (.inl false)) := by
  intro k
  induction k with
  | zero =>
    intro n i last h1 h2 h3 h4
    cases n with
    | zero => omega
    | succ n =>
      rw [qLaj, decide_eq_false (show ¬ ((i : Int) < (l.length : Int)) by omega), List.drop_of_length_le (show l.length ≤ i by omega)]
      rfl
  | succ k ih =>
    intro n i last h1 h2 h3 h4
    cases n with
    | zero => omega
    | succ n =>
      have hi : i < l.length := by omega
      have hl' : l.length ≤ 9223372036854775807 := hl
      rw [qLaj, decide_eq_true (show (i : Int) < (l.length : Int) by omega), decide_eq_true (show (0 : Int) ≤ (i : Int) by omega), up1 (by omega)]
      simp only [cond_true, Int.toNat_natCast, v27_eq, v26_eq, ok_some, val_some, cond_nb]
      rw [getD_drop hi DQ, lst]
      cases pkOk (l.getD i DQ).1 with
      | false => rfl
      | true =>
        simp only [cond_true]
        have step : 0 ≤ (l.getD i DQ).2 → Laj n l hi0 ((i + 1 : Nat) : Int) = some (cond (lst hi0 (l.getD i DQ).2 (l.drop (i + 1))) (.inr ()) (.inl false)) := fun h0 => ih n (i + 1) _ (by omega) (by omega) (by omega) fun _ => ⟨by simp, h0⟩
        have hlast : 0 ≤ last := by
          by_cases hz : i = 0
          · rw [h3 hz]; omega
          · exact (h4 (by omega)).2
        by_cases c1 : 0 ≤ (l.getD i DQ).2 ∧ (l.getD i DQ).2 ≤ 10000000
        case neg =>
          rw [decide_eq_false c1, decide_eq_false (show ¬ (last ≤ (l.getD i DQ).2 ∧ (l.getD i DQ).2 ≤ hi0) by omega)]; rfl
        rw [decide_eq_true c1]
        simp only [cond_true]
        by_cases c2 : (l.getD i DQ).2 > hi0
        · rw [decide_eq_true c2, decide_eq_false (show ¬ (last ≤ (l.getD i DQ).2 ∧ (l.getD i DQ).2 ≤ hi0) by omega)]; rfl
        rw [decide_eq_false c2]
        simp only [cond_false]
        by_cases hz : i = 0
        · subst hz
          rw [decide_eq_false (show ¬ ((0 : Nat) : Int) > 0 by omega), decide_eq_true (show last ≤ (l.getD 0 DQ).2 ∧ (l.getD 0 DQ).2 ≤ hi0 by rw [h3 rfl]; omega)]
          simp only [cond_true, cond_false]
          exact step (by omega)
        · obtain ⟨h5, h6⟩ := h4 (by omega)
          rw [decide_eq_true (show (i : Int) > 0 by omega), dn1' (by omega) (by omega), decide_eq_true (show (0 : Int) ≤ ((i - 1 : Nat) : Int) by omega), decide_eq_true (show ((i - 1 : Nat) : Int) < (l.length : Int) by omega)]
          simp only [cond_true, Int.toNat_natCast]
          by_cases c3 : (l.getD i DQ).2 < (l.getD (i - 1) DQ).2
          · rw [decide_eq_true c3, decide_eq_false (show ¬ (last ≤ (l.getD i DQ).2 ∧ (l.getD i DQ).2 ≤ hi0) by omega)]; rfl
          · rw [decide_eq_false c3, decide_eq_true (show last ≤ (l.getD i DQ).2 ∧ (l.getD i DQ).2 ≤ hi0 by omega)]
            simp only [cond_true, cond_false]
            exact step (by omega)
theorem v43_eq (l : List QD) (hl : Len l) (hi0 : Int) (hhi : hi0 ≤ 10000000) : v43 l hi0 = some (lst hi0 0 l) := by
  unfold v43
  have h := l43 l hl hi0 hhi l.length FU 0 0 (by omega) (by have : l.length ≤ 9223372036854775807 := hl; unfold FU; omega) (fun _ => rfl) (fun h => by omega)
  simp only [Int.natCast_zero, List.drop_zero] at h
  rw [h]
  cases lst hi0 0 l <;> rfl
theorem vdf {q : Qu} (h : Vd q) : q.k = 3 ∧ (0 ≤ q.a ∧ q.a ≤ 1000000) ∧ (1 ≤ q.b ∧ q.b ≤ 1000000) ∧ q.c = 0 ∧ (1 ≤ q.room ∧ q.room ≤ 500) ∧ q.ls.length = 1 ∧ q.seed = 0 ∧ (0 ≤ q.v7 ∧ q.v7 ≤ 10000000) ∧
  (0 ≤ q.v0 ∧ q.v0 ≤ q.v7 + q.b + 1) ∧ (0 ≤ q.v1 ∧ q.v1 ≤ 1000000000) ∧ (q.v0 = 0 → q.v1 = 0) ∧ ((first q).length : Int) ≤ q.room ∧ (q.v2 = 0 ∧ q.v3 = 0 ∧ q.v4 = 0 ∧ q.v5 = 0 ∧ q.v6 = 0) :=
  ⟨h.k, h.a, h.b, h.c, h.room, h.one, h.seed, h.v7, h.v0, h.v1, h.v01, h.len, h.v2, h.v3, h.v4, h.v5, h.v6⟩
theorem v19_iff (q : Qu) (hf : Len (first q)) : ∃ x, v19 q.k q.a q.b q.c q.room q.ls q.v0 q.v1 q.v2 q.v3 q.v4 q.v5 q.v6 q.v7 q.seed = some x ∧ (x = true ↔ Vd q) := by
  unfold v19
  rw [v26_eq]
  simp only [ok_some, val_some, cond_true, cond_nb]
  have no : ¬ Vd q → ∃ x, some false = some x ∧ (x = true ↔ Vd q) := fun hn => ⟨false, rfl, fun h => (by cases h), fun h => absurd h hn⟩
  by_cases h1 : q.k = 3
  case neg => rw [show (q.k != (3 : Int)) = true by simpa using h1]; exact no (fun hv => by have hq := vdf hv; omega)
  rw [show (q.k != (3 : Int)) = false by simpa using h1]
  by_cases h2 : q.a < 0
  case pos => rw [decide_eq_true h2]; exact no (fun hv => by have hq := vdf hv; omega)
  rw [decide_eq_false h2]
  by_cases h3 : q.a > 1000000
  case pos => rw [decide_eq_true h3]; exact no (fun hv => by have hq := vdf hv; omega)
  rw [decide_eq_false h3]
  by_cases h4 : q.b < 1
  case pos => rw [decide_eq_true h4]; exact no (fun hv => by have hq := vdf hv; omega)
  rw [decide_eq_false h4]
  by_cases h5 : q.b > 1000000
  case pos => rw [decide_eq_true h5]; exact no (fun hv => by have hq := vdf hv; omega)
  rw [decide_eq_false h5]
  by_cases h6 : q.c = 0
  case neg => rw [show (q.c != (0 : Int)) = true by simpa using h6]; exact no (fun hv => by have hq := vdf hv; omega)
  rw [show (q.c != (0 : Int)) = false by simpa using h6]
  by_cases h7 : q.room < 1
  case pos => rw [decide_eq_true h7]; exact no (fun hv => by have hq := vdf hv; omega)
  rw [decide_eq_false h7]
  by_cases h8 : q.room > 500
  case pos => rw [decide_eq_true h8]; exact no (fun hv => by have hq := vdf hv; omega)
  rw [decide_eq_false h8]
  by_cases h9 : q.ls.length = 1
  case neg => rw [show ((q.ls.length : Int) != (1 : Int)) = true by simp; omega]; exact no (fun hv => by have hq := vdf hv; omega)
  rw [show ((q.ls.length : Int) != (1 : Int)) = false by simp; omega]
  by_cases h10 : q.seed = 0
  case neg => rw [show (q.seed != (0 : Int)) = true by simpa using h10]; exact no (fun hv => by have hq := vdf hv; omega)
  rw [show (q.seed != (0 : Int)) = false by simpa using h10]
  by_cases h11 : 0 ≤ q.v7 ∧ q.v7 ≤ 10000000
  case neg => rw [decide_eq_false h11]; exact no (fun hv => by have hq := vdf hv; omega)
  rw [decide_eq_true h11]
  simp only [cond_true, cond_false]
  have w1 : IntKind.wrap IntKind.i64 (q.v7 + q.b) = q.v7 + q.b := wrap_id (by omega) (by omega)
  have w2 : IntKind.wrap IntKind.i64 (q.v7 + q.b + 1) = q.v7 + q.b + 1 := wrap_id (by omega) (by omega)
  have e92 : (0 ≤ q.v0 ∧ q.v0 ≤ q.v7 + q.b + 1) → (0 ≤ q.v1 ∧ q.v1 ≤ 1000000000) → (q.v0 = 0 → q.v1 = 0) → q.v2 = 0 → q.v3 = 0 → q.v4 = 0 → q.v5 = 0 → q.v6 = 0 →
      ∃ x, Lan q.k q.a q.b q.c q.room q.ls q.v0 q.v1 q.v2 q.v3 q.v4 q.v5 q.v6 q.v7 q.seed = some x ∧ (x = true ↔ Vd q) := by
    intro a0 a1 a01 b2 b3 b4 b5 b6
    unfold Lan
    have e : q.ls.getD (Int.toNat (0 : Int)) [] = first q := rfl
    rw [e, v43_eq _ hf _ h11.2, decide_eq_true (show (0 : Int) < (q.ls.length : Int) by omega)]
    simp only [cond_true, ok_some, val_some]
    by_cases c : ((first q).length : Int) ≤ q.room
    case neg => rw [decide_eq_false c]; exact no (fun hv => by have hq := vdf hv; omega)
    rw [decide_eq_true c]
    exact ⟨_, rfl, fun hx => ⟨h1, by omega, by omega, h6, by omega, h9, h10, h11, a0, a1, a01, c, b2, b3, b4, b5, b6, hx⟩, fun hv => hv.lst⟩
  have e52 : (0 ≤ q.v0 ∧ q.v0 ≤ q.v7 + q.b + 1) → (0 ≤ q.v1 ∧ q.v1 ≤ 1000000000) → (q.v0 = 0 → q.v1 = 0) →
      ∃ x, (cond (q.v2 != 0) (some false) (cond (q.v3 != 0) (some false) (cond (q.v4 != 0) (some false) (cond (q.v5 != 0) (some false) (cond (q.v6 != 0) (some false) (cond (ok (Lan q.k q.a q.b q.c q.room q.ls q.v0 q.v1 q.v2 q.v3 q.v4 q.v5 q.v6 q.v7 q.seed)) (some (val (Lan q.k q.a q.b q.c q.room q.ls q.v0 q.v1 q.v2 q.v3 q.v4 q.v5 q.v6 q.v7 q.seed))) none)))))) = some x ∧ (x = true ↔ Vd q) := by
    intro a0 a1 a01
    by_cases b2 : q.v2 = 0
    case neg => rw [show (q.v2 != (0 : Int)) = true by simpa using b2]; exact no (fun hv => by have hq := vdf hv; omega)
    by_cases b3 : q.v3 = 0
    case neg => rw [show (q.v2 != (0 : Int)) = false by simpa using b2, show (q.v3 != (0 : Int)) = true by simpa using b3]; exact no (fun hv => by have hq := vdf hv; omega)
    by_cases b4 : q.v4 = 0
    case neg => rw [show (q.v2 != (0 : Int)) = false by simpa using b2, show (q.v3 != (0 : Int)) = false by simpa using b3, show (q.v4 != (0 : Int)) = true by simpa using b4]; exact no (fun hv => by have hq := vdf hv; omega)
    by_cases b5 : q.v5 = 0
    case neg => rw [show (q.v2 != (0 : Int)) = false by simpa using b2, show (q.v3 != (0 : Int)) = false by simpa using b3, show (q.v4 != (0 : Int)) = false by simpa using b4, show (q.v5 != (0 : Int)) = true by simpa using b5]; exact no (fun hv => by have hq := vdf hv; omega)
    by_cases b6 : q.v6 = 0
    case neg => rw [show (q.v2 != (0 : Int)) = false by simpa using b2, show (q.v3 != (0 : Int)) = false by simpa using b3, show (q.v4 != (0 : Int)) = false by simpa using b4, show (q.v5 != (0 : Int)) = false by simpa using b5, show (q.v6 != (0 : Int)) = true by simpa using b6]; exact no (fun hv => by have hq := vdf hv; omega)
    rw [show (q.v2 != (0 : Int)) = false by simpa using b2, show (q.v3 != (0 : Int)) = false by simpa using b3, show (q.v4 != (0 : Int)) = false by simpa using b4, show (q.v5 != (0 : Int)) = false by simpa using b5, show (q.v6 != (0 : Int)) = false by simpa using b6]
    obtain ⟨x, hx, hv⟩ := e92 a0 a1 a01 b2 b3 b4 b5 b6
    rw [hx]
    exact ⟨x, rfl, hv⟩
  have e36 : ∃ x, Lav q.k q.a q.b q.c q.room q.ls q.v0 q.v1 q.v2 q.v3 q.v4 q.v5 q.v6 q.v7 q.seed q.k q.a q.b q.c = some x ∧ (x = true ↔ Vd q) := by
    unfold Lav Lay Lax
    rw [w1, w2]
    by_cases a0 : q.v0 < 0
    case pos => rw [decide_eq_true a0]; exact no (fun hv => by have hq := vdf hv; omega)
    rw [decide_eq_false a0]
    by_cases a1 : q.v0 > q.v7 + q.b + 1
    case pos => rw [decide_eq_true a1]; exact no (fun hv => by have hq := vdf hv; omega)
    rw [decide_eq_false a1]
    by_cases a2 : q.v1 < 0
    case pos => rw [decide_eq_true a2]; exact no (fun hv => by have hq := vdf hv; omega)
    rw [decide_eq_false a2]
    by_cases a3 : q.v1 > 1000000000
    case pos => rw [decide_eq_true a3]; exact no (fun hv => by have hq := vdf hv; omega)
    rw [decide_eq_false a3]
    simp only [cond_false]
    by_cases z : q.v0 = 0
    · rw [show (q.v0 == (0 : Int)) = true by simpa using z]
      by_cases z1 : q.v1 = 0
      · rw [show (q.v1 != (0 : Int)) = false by simpa using z1]
        obtain ⟨x, hx, hv⟩ := e52 (by omega) (by omega) (fun _ => z1)
        simp only [cond_true, cond_false]
        rw [hx]
        exact ⟨x, rfl, hv⟩
      · rw [show (q.v1 != (0 : Int)) = true by simpa using z1]; exact no (fun hv => by have hq := vdf hv; omega)
    · rw [show (q.v0 == (0 : Int)) = false by simpa using z]
      obtain ⟨x, hx, hv⟩ := e52 (by omega) (by omega) (fun h => absurd h z)
      simp only [cond_false]
      rw [hx]
      exact ⟨x, rfl, hv⟩
  obtain ⟨x, hx, hv⟩ := e36
  rw [hx]
  exact ⟨x, rfl, hv⟩
theorem v19_eq (q : Qu) (hf : Len (first q)) : v19 q.k q.a q.b q.c q.room q.ls q.v0 q.v1 q.v2 q.v3 q.v4 q.v5 q.v6 q.v7 q.seed = some (vd q) := by
  obtain ⟨x, hx, hv⟩ := v19_iff q hf
  have e : x = vd q := by
    cases h : x with
    | true => exact (vd_iff.2 (hv.1 h)).symm
    | false =>
      cases h2 : vd q with
      | false => rfl
      | true => rw [hv.2 (vd_iff.1 h2)] at h; cases h
  rw [hx, e]
theorem v11_eq (q : Qu) (hl : Len q.ls) : ∃ x, v11 q.k q.a q.b q.c q.room q.ls q.v0 q.v1 q.v2 q.v3 q.v4 q.v5 q.v6 q.v7 q.seed = some x ∧ (x = true → Len (first q)) := by
  have hl' : q.ls.length ≤ 9223372036854775807 := hl
  have h0 : Lah FU 0 q.k q.a q.b q.c q.room q.ls q.v0 q.v1 q.v2 q.v3 q.v4 q.v5 q.v6 q.v7 q.seed = some (cond ((List.range q.ls.length).all fun i => decide ((q.ls.getD i []).length ≤ 600)) (.inr ()) (.inl false)) := by
    refine all_loop (m := q.ls.length) hl' (fun n j => Lah n j q.k q.a q.b q.c q.room q.ls q.v0 q.v1 q.v2 q.v3 q.v4 q.v5 q.v6 q.v7 q.seed) _ (fun n i hi => ?_) fun n => ?_
    · show Lah (n + 1) _ _ _ _ _ _ _ _ _ _ _ _ _ _ _ _ = _
      rw [qLah, decide_eq_true (show (i : Int) < (q.ls.length : Int) by omega), decide_eq_true (show (0 : Int) ≤ (i : Int) by omega), up1 (by omega)]
      simp only [cond_true, Int.toNat_natCast]
      by_cases c : (q.ls.getD i []).length ≤ 600
      · rw [decide_eq_true c, decide_eq_false (show ¬ (((q.ls.getD i []).length : Int) > 600) by omega)]; rfl
      · rw [decide_eq_false c, decide_eq_true (show (((q.ls.getD i []).length : Int) > 600) by omega)]; rfl
    · show Lah (n + 1) _ _ _ _ _ _ _ _ _ _ _ _ _ _ _ _ = _
      rw [qLah, decide_eq_false (show ¬ (q.ls.length : Int) < (q.ls.length : Int) by omega)]
      rfl
  unfold v11
  rw [h0]
  cases ha : (List.range q.ls.length).all fun i => decide ((q.ls.getD i []).length ≤ 600) with
  | false => exact ⟨false, rfl, fun h => by cases h⟩
  | true =>
    refine ⟨_, rfl, fun _ => ?_⟩
    show (q.ls.getD 0 []).length ≤ _
    by_cases h : 0 < q.ls.length
    · have := of_decide_eq_true (List.all_eq_true.1 ha 0 (List.mem_range.2 h))
      omega
    · rw [List.getD_eq_getElem?_getD, List.getElem?_eq_none (by omega)]; simp
theorem v34_eq (q : Qu) (now : Int) (hf : Len (first q)) : v34 q.k q.a q.b q.c q.room q.ls q.v0 q.v1 q.v2 q.v3 q.v4 q.v5 q.v6 q.v7 q.seed now = some (opn q now) := by
  unfold v34 opn
  rw [v19_eq q hf, v26_eq]
  simp only [ok_some, val_some, cond_true, cond_nb]
  cases vd q with
  | false => rfl
  | true =>
    cases decide (0 ≤ now ∧ now ≤ 10000000) with
    | false => rfl
    | true => cases decide (now < q.v7) <;> rfl
theorem len_a {a : Nat} (h : a ≤ 2147483648) : decide (a ≤ nat_lit 2147483648) = true := decide_eq_true h
theorem len_b {α : Type} {a : Nat} {x : α} (h : a + 1 ≤ 2147483648) : decide (a + List.length [x] ≤ nat_lit 2147483648) = true := decide_eq_true h
theorem v13_eq (q : Qu) (p : PK) (now : Int) (hf : Len (first q)) : v13 q.k q.a q.b q.c q.room q.ls q.v0 q.v1 q.v2 q.v3 q.v4 q.v5 q.v6 q.v7 q.seed p.1 p.2.1 p.2.2.1 p.2.2.2.1 p.2.2.2.2.1 p.2.2.2.2.2.1 p.2.2.2.2.2.2.1 p.2.2.2.2.2.2.2 now = some (putR q p now) := by
  obtain ⟨p1, p2, p3, p4, p5, p6, p7, p8⟩ := p
  simp only
  unfold v13 putR
  have e27 : v27 p1 p2 p3 p4 p5 p6 p7 p8 = some (pkOk (p1, p2, p3, p4, p5, p6, p7, p8)) := v27_eq (p1, p2, p3, p4, p5, p6, p7, p8)
  rw [e27, v34_eq q now hf]
  rw [ok_some, ok_some, val_some, val_some, cond_true, cond_true, cond_nb]
  cases pkOk (p1, p2, p3, p4, p5, p6, p7, p8) with
  | false => rw [cond_false, cond_false]
  | true =>
    rw [cond_true, cond_true]
    by_cases h : opn q now = 0
    · have hv := vd_iff.1 (opn_vd h).1
      have hl := hv.len
      have hr := hv.room
      have e : q.ls.getD (Int.toNat (0 : Int)) [] = first q := rfl
      have h1 := hv.one
      rw [decide_eq_true h, h, e]
      have z : ((0 : Int) != (0 : Int)) = false := rfl
      rw [z, decide_eq_true (show (0 : Int) < (q.ls.length : Int) by omega), len_a (show (first q).length ≤ 2147483648 by omega), len_b (show (first q).length + 1 ≤ 2147483648 by omega)]
      rw [cond_false, cond_true, cond_true, cond_true, cond_true]
      by_cases c : ((first q).length : Int) ≥ q.room
      · rw [decide_eq_true c, show (((first q).length : Int) == q.room) = true by simp; omega]; rfl
      · rw [decide_eq_false c, show (((first q).length : Int) == q.room) = false by simp; omega]; rfl
    · rw [decide_eq_false h, show (opn q now != 0) = true by simpa using h]
      rfl
theorem v14_err (q : Qu) (now : Int) (hf : Len (first q)) (h : opn q now ≠ 0) : v14 q.k q.a q.b q.c q.room q.ls q.v0 q.v1 q.v2 q.v3 q.v4 q.v5 q.v6 q.v7 q.seed now =
    some (0, 0, 0, 0, 0, [], 0, 0, 0, 0, 0, 0, 0, 0, 0, 0, 0, 0, 0, 0, 0, false, false, false, [], opn q now) := by
  have e := v32_eq q now hf
  rw [decide_eq_false h] at e
  unfold v14
  rw [e]
  simp only [cond_false, isL_inl, getL_inl, cond_true]
  rw [show (opn q now != (0 : Int)) = true by simpa using h]
  rfl
def hitS (a b now v0 v1 wait : Int) : Bool × Int × Int :=
  cond (decide (wait < a)) (false, 0, 0) (cond (decide (v0 = 0)) (false, now + b + 1, v1) (cond (decide (now ≥ v0 - 1)) (true, v0 + max 1 (Int.tdiv b (min 1000000000 (v1 + 1) + 1)), min 1000000000 (v1 + 1)) (false, v0, v1)))
theorem step_le {b v1 : Int} (hb : 1 ≤ b ∧ b ≤ 1000000) (h1 : 0 ≤ v1 ∧ v1 ≤ 1000000000) : 0 ≤ Int.tdiv b (min 1000000000 (v1 + 1) + 1) ∧ Int.tdiv b (min 1000000000 (v1 + 1) + 1) ≤ b := by
  have hm : 0 < min 1000000000 (v1 + 1) + 1 := by omega
  rw [Int.tdiv_eq_ediv_of_nonneg (by omega)]
  refine ⟨Int.ediv_nonneg (by omega) (by omega), ?_⟩
  exact Int.ediv_le_self _ (by omega)
theorem hitS_bd {a b now v0 v1 wait : Int} (hn : 0 ≤ now ∧ now ≤ 10000000) (hb : 1 ≤ b ∧ b ≤ 1000000) {m : Int} (h0 : 0 ≤ v0 ∧ v0 ≤ m) (hm : 11000001 ≤ m) (h1 : 0 ≤ v1 ∧ v1 ≤ 1000000000) :
    (0 ≤ (hitS a b now v0 v1 wait).2.1 ∧ (hitS a b now v0 v1 wait).2.1 ≤ m + 1000000) ∧ 0 ≤ (hitS a b now v0 v1 wait).2.2 ∧ (hitS a b now v0 v1 wait).2.2 ≤ 1000000000 := by
  have hs := step_le hb h1
  unfold hitS
  by_cases c1 : wait < a
  · rw [decide_eq_true c1]; simp only [cond_true]; omega
  rw [decide_eq_false c1]
  by_cases c2 : v0 = 0
  · rw [decide_eq_true c2]; simp only [cond_true, cond_false]; omega
  rw [decide_eq_false c2]
  by_cases c3 : now ≥ v0 - 1
  · rw [decide_eq_true c3]; simp only [cond_true, cond_false]; omega
  · rw [decide_eq_false c3]; simp only [cond_false]; omega
theorem v37_eq {a b now v0 v1 wait : Int} (hn : 0 ≤ now ∧ now ≤ 10000000) (hb : 1 ≤ b ∧ b ≤ 1000000) (h0 : 0 ≤ v0 ∧ v0 ≤ 9000000000000) (h1 : 0 ≤ v1 ∧ v1 ≤ 1000000000) (k c room v2 v3 v4 v5 v6 v7 seed : Int) (x : Nat) (y : List QD) :
    v37 wait k a b c room v0 v1 v2 v3 v4 v5 v6 v7 seed now x y = some (hitS a b now v0 v1 wait) := by
  unfold v37 v38 hitS
  have hs := step_le hb h1
  have w1 : IntKind.wrap IntKind.i64 (now + b) = now + b := wrap_id (by omega) (by omega)
  have w2 : IntKind.wrap IntKind.i64 (now + b + 1) = now + b + 1 := wrap_id (by omega) (by omega)
  have w3 : IntKind.wrap IntKind.i64 (v0 - 1) = v0 - 1 := wrap_id (by omega) (by omega)
  have w4 : IntKind.wrap IntKind.i64 (v1 + 1) = v1 + 1 := wrap_id (by omega) (by omega)
  have w5 : IntKind.wrap IntKind.i64 (min 1000000000 (v1 + 1) + 1) = min 1000000000 (v1 + 1) + 1 := wrap_id (by omega) (by omega)
  have w6 : IntKind.wrap IntKind.i64 (Int.tdiv b (min 1000000000 (v1 + 1) + 1)) = Int.tdiv b (min 1000000000 (v1 + 1) + 1) := wrap_id (by omega) (by omega)
  have w7 : IntKind.wrap IntKind.i64 (v0 + max 1 (Int.tdiv b (min 1000000000 (v1 + 1) + 1))) = v0 + max 1 (Int.tdiv b (min 1000000000 (v1 + 1) + 1)) := wrap_id (by omega) (by omega)
  simp only [w1, w2, w3, w4, w5, w6, w7, val_some]
  rw [decide_eq_true (show min 1000000000 (v1 + 1) + 1 ≠ 0 by omega), beq_dec]
  simp only [cond_true]
  cases decide (wait < a) <;> cases decide (v0 = 0) <;> cases decide (now ≥ v0 - 1) <;> rfl
def takeS (a b now : Int) : List QD → Int → Int → List PK → List QD × Int × Int × Option PK × List PK
  | [], _, _, d => ([], 0, 0, none, d)
  | w :: r, v0, v1, d =>
    cond ((hitS a b now v0 v1 (now - w.2)).1 && !w.1.2.2.2.2.2.2.1) (takeS a b now r (hitS a b now v0 v1 (now - w.2)).2.1 (hitS a b now v0 v1 (now - w.2)).2.2 (d ++ [w.1]))
      (r, (hitS a b now v0 v1 (now - w.2)).2.1, (hitS a b now v0 v1 (now - w.2)).2.2, some (w.1.1, w.1.2.1, w.1.2.2.1, w.1.2.2.2.1, w.1.2.2.2.2.1, w.1.2.2.2.2.2.1, w.1.2.2.2.2.2.2.1, w.1.2.2.2.2.2.2.2 || (hitS a b now v0 v1 (now - w.2)).1), d)
theorem v36_eq (p : PK) (d : List PK) (hd : d.length ≤ 1000) : v36 p.1 p.2.1 p.2.2.1 p.2.2.2.1 p.2.2.2.2.1 p.2.2.2.2.2.1 p.2.2.2.2.2.2.1 p.2.2.2.2.2.2.2 d = some (d ++ [p]) := by
  unfold v36
  rw [decide_eq_true (show d.length + [(p.1, p.2.1, p.2.2.1, p.2.2.2.1, p.2.2.2.2.1, p.2.2.2.2.2.1, p.2.2.2.2.2.2.1, p.2.2.2.2.2.2.2)].length ≤ 2147483648 by simp; omega)]
  rfl
theorem l14_68 (s1 s2 s3 s4 s5 s6 s7 s8 s9 s10 s11 s12 s13 s14 s15 s16 s17 s18 s19 s20 : Int) (s21 s22 : Bool) (p : PK) (at' : Int) (d : List PK) (k a b c room v0 v1 v2 v3 v4 v5 v6 v7 seed now : Int) (l : List QD) (y : List (List QD))
    (hn : 0 ≤ now ∧ now ≤ 10000000) (hb : 1 ≤ b ∧ b ≤ 1000000) (h0 : 0 ≤ v0 ∧ v0 ≤ 9000000000000) (h1 : 0 ≤ v1 ∧ v1 ≤ 1000000000) (hat : 0 ≤ at' ∧ at' ≤ 10000000) (hl : 1 ≤ l.length) (hd : d.length ≤ 1000) :
    Lae now s1 s2 s3 s4 s5 s6 s7 s8 s9 s10 s11 s12 s13 s14 s15 s16 s17 s18 s19 s20 s21 s22 p.1 p.2.1 p.2.2.1 p.2.2.2.1 p.2.2.2.2.1 p.2.2.2.2.2.1 p.2.2.2.2.2.2.1 p.2.2.2.2.2.2.2 at' d k a b c room v0 v1 v2 v3 v4 v5 v6 v7 seed now l y =
    some (cond ((hitS a b now v0 v1 (now - at')).1 && !p.2.2.2.2.2.2.1) (.inl (d ++ [p], (hitS a b now v0 v1 (now - at')).2.1, (hitS a b now v0 v1 (now - at')).2.2, l.length - 1))
      (.inr (true, 0, (hitS a b now v0 v1 (now - at')).2.1, (hitS a b now v0 v1 (now - at')).2.2, p.2.2.2.2.2.2.2 || (hitS a b now v0 v1 (now - at')).1, l.length - 1))) := by
  have w1 : IntKind.wrap IntKind.i64 (now - at') = now - at' := wrap_id (by omega) (by omega)
  have n1 : Int.toNat 1 = 1 := rfl
  unfold Lae
  rw [n1, w1, v37_eq hn hb h0 h1, v36_eq p d hd, decide_eq_true hl, decide_eq_true (Nat.le_refl _)]
  unfold Laq Lao
  simp only [cond_true, ok_some, val_some]
  cases (hitS a b now v0 v1 (now - at')).1 <;> cases p.2.2.2.2.2.2.1 <;> cases p.2.2.2.2.2.2.2 <;> rfl
def tkE (a b now : Int) : List QD → Int → Int → List PK → (Bool × Int × Int × Int × Int × Int × Int × Int × Int × Int × Bool × Bool × List PK × Nat × List QD) ⊕ (Int × Int × List QD × List PK)
  | [], v0, v1, d => .inr (v0, v1, [], d)
  | w :: r, v0, v1, d => cond ((hitS a b now v0 v1 (now - w.2)).1 && !w.1.2.2.2.2.2.2.1) (tkE a b now r (hitS a b now v0 v1 (now - w.2)).2.1 (hitS a b now v0 v1 (now - w.2)).2.2 (d ++ [w.1]))
      (.inl (true, 0, (hitS a b now v0 v1 (now - w.2)).2.1, (hitS a b now v0 v1 (now - w.2)).2.2, w.1.1, w.1.2.1, w.1.2.2.1, w.1.2.2.2.1, w.1.2.2.2.2.1, w.1.2.2.2.2.2.1, w.1.2.2.2.2.2.2.1, w.1.2.2.2.2.2.2.2 || (hitS a b now v0 v1 (now - w.2)).1, d, (w :: r).length - 1, w :: r))
theorem l14_0 (s1 s2 s3 s4 s5 s6 s7 s8 s9 s10 s11 s12 s13 s14 s15 s16 s17 s18 s19 s20 : Int) (s21 s22 : Bool) (k a b c room v2 v3 v4 v5 v6 v7 seed now : Int) (y : List (List QD)) (hn : 0 ≤ now ∧ now ≤ 10000000) (hb : 1 ≤ b ∧ b ≤ 1000000) :
    ∀ (l : List QD) (n : Nat) (v0 v1 m : Int) (d : List PK), l.length < n → (∀ w ∈ l, 0 ≤ w.2 ∧ w.2 ≤ 10000000) → (0 ≤ v0 ∧ v0 ≤ m) → 11000001 ≤ m → m + 1000000 * (l.length : Int) ≤ 9000000000000 → (0 ≤ v1 ∧ v1 ≤ 1000000000) → d.length + l.length ≤ 1000 →
    Lab n now s1 s2 s3 s4 s5 s6 s7 s8 s9 s10 s11 s12 s13 s14 s15 s16 s17 s18 s19 s20 s21 s22 d k a b c room v0 v1 v2 v3 v4 v5 v6 v7 seed now l y = some (tkE a b now l v0 v1 d)
  | [], n + 1, v0, v1, m, d, _, _, _, _, _, _, _ => by
    rw [qLab, decide_eq_false (show ¬ ((([] : List QD).length : Int) > 0) by simp)]
    rfl
  | w :: r, n + 1, v0, v1, m, d, hl, hw, h0, hm, hM, h1, hd => by
    have hlen : (w :: r).length = r.length + 1 := List.length_cons
    have hww := hw w (List.mem_cons_self ..)
    have hg : List.getD (w :: r) (Int.toNat 0) (PKz, (0 : Int)) = w := rfl
    have e := l14_68 s1 s2 s3 s4 s5 s6 s7 s8 s9 s10 s11 s12 s13 s14 s15 s16 s17 s18 s19 s20 s21 s22 w.1 w.2 d k a b c room v0 v1 v2 v3 v4 v5 v6 v7 seed now (w :: r) y hn hb (by omega) h1 hww (by omega) (by omega)
    have hbd := hitS_bd (a := a) (v0 := v0) (v1 := v1) (wait := now - w.2) hn hb h0 hm h1
    rw [qLab, decide_eq_true (show ((w :: r).length : Int) > 0 by omega), decide_eq_true (show Int.toNat 0 < (w :: r).length by rw [hlen]; exact Nat.succ_pos _), hg, e]
    unfold tkE
    cases hc : ((hitS a b now v0 v1 (now - w.2)).1 && !w.1.2.2.2.2.2.2.1) with
    | true =>
      simp only [cond_true, isL_inl, getL_inl]
      rw [show Nat.beq (1 + ((w :: r).length - 1)) (w :: r).length = true by rw [Nat.beq_eq]; omega]
      exact l14_0 s1 s2 s3 s4 s5 s6 s7 s8 s9 s10 s11 s12 s13 s14 s15 s16 s17 s18 s19 s20 s21 s22 k a b c room v2 v3 v4 v5 v6 v7 seed now y hn hb r n _ _ (m + 1000000) (d ++ [w.1]) (by omega) (fun x hx => hw x (List.mem_cons_of_mem _ hx)) hbd.1 (by omega) (by omega) hbd.2 (by rw [List.length_append, List.length_singleton]; omega)
    | false =>
      simp only [cond_true, cond_false, isL_inr, getR_inr, ok_some, val_some]
theorem tkE_len {a b now : Int} : ∀ {l : List QD} {v0 v1 : Int} {d : List PK} {r}, tkE a b now l v0 v1 d = .inl r → 1 + r.2.2.2.2.2.2.2.2.2.2.2.2.2.1 = r.2.2.2.2.2.2.2.2.2.2.2.2.2.2.length
  | [], v0, v1, d, r, h => by unfold tkE at h; cases h
  | w :: l, v0, v1, d, r, h => by
    unfold tkE at h
    cases hc : ((hitS a b now v0 v1 (now - w.2)).1 && !w.1.2.2.2.2.2.2.1) with
    | true => rw [hc] at h; exact tkE_len h
    | false =>
      rw [hc] at h
      cases h
      simp only [List.length_cons]
      omega
theorem lst_at {hi0 : Int} : ∀ {l : List QD} {last : Int}, 0 ≤ last → lst hi0 last l = true → ∀ w ∈ l, 0 ≤ w.2 ∧ w.2 ≤ hi0
  | [], _, _, _, w, hw => by cases hw
  | x :: r, last, h0, h, w, hw => by
    unfold lst at h
    cases hp : pkOk x.1 with
    | false => rw [hp] at h; cases h
    | true =>
      rw [hp] at h
      simp only [cond_true] at h
      by_cases c : last ≤ x.2 ∧ x.2 ≤ hi0
      · rw [decide_eq_true c] at h
        rcases List.mem_cons.1 hw with e | e
        · rw [e]; omega
        · exact lst_at (by omega) h w e
      · rw [decide_eq_false c] at h; cases h
theorem cond_dec {α : Type} {p : Prop} {inst : Decidable p} (h : p) (a b : α) : cond (@decide p inst) a b = a := by rw [decide_eq_true h]; rfl
theorem v14_ok (q : Qu) (now : Int) (hf : Len (first q)) (h : opn q now = 0) :
    (∃ r, tkE q.a q.b now (first q) q.v0 q.v1 [] = .inl r ∧ v14 q.k q.a q.b q.c q.room q.ls q.v0 q.v1 q.v2 q.v3 q.v4 q.v5 q.v6 q.v7 q.seed now =
      some (q.k, q.a, q.b, q.c, q.room, [List.take r.2.2.2.2.2.2.2.2.2.2.2.2.2.1 (List.drop 1 r.2.2.2.2.2.2.2.2.2.2.2.2.2.2)], r.2.2.1, r.2.2.2.1, q.v2, q.v3, q.v4, q.v5, q.v6, now, q.seed,
        r.2.2.2.2.1, r.2.2.2.2.2.1, r.2.2.2.2.2.2.1, r.2.2.2.2.2.2.2.1, r.2.2.2.2.2.2.2.2.1, r.2.2.2.2.2.2.2.2.2.1, r.2.2.2.2.2.2.2.2.2.2.1, r.2.2.2.2.2.2.2.2.2.2.2.1, r.1, r.2.2.2.2.2.2.2.2.2.2.2.2.1, r.2.1)) ∨
    (∃ r, tkE q.a q.b now (first q) q.v0 q.v1 [] = .inr r ∧ v14 q.k q.a q.b q.c q.room q.ls q.v0 q.v1 q.v2 q.v3 q.v4 q.v5 q.v6 q.v7 q.seed now =
      some (q.k, q.a, q.b, q.c, q.room, [r.2.2.1], 0, 0, q.v2, q.v3, q.v4, q.v5, q.v6, now, q.seed, 0, 0, 0, 0, 0, 0, false, false, false, r.2.2.2, 0)) := by
  have e := v32_eq q now hf
  rw [decide_eq_true h] at e
  obtain ⟨hv, hn0, hn1, hn7⟩ := opn_vd h
  have hvd := vd_iff.1 hv
  have hl := len_first hv
  have hb := hvd.b
  have h0 := hvd.v0
  have h1 := hvd.v1
  have h7 := hvd.v7
  have hat := lst_at (Int.le_refl 0) hvd.lst
  have hk := l14_0 0 0 0 0 0 0 0 0 0 0 0 0 0 0 0 0 0 0 0 0 false false q.k q.a q.b q.c q.room q.v2 q.v3 q.v4 q.v5 q.v6 now q.seed now [] ⟨hn0, hn1⟩ hb (first q) FU q.v0 q.v1 20000000 [] (by unfold FU; omega)
    (fun w hw => by have := hat w hw; omega) (by omega) (by omega) (by omega) h1 (by simp only [List.length_nil]; omega)
  unfold v14
  rw [e]
  simp only [cond_true, isL_inr, getR_inr, ok_some, val_some, cond_false]
  rw [show (((0 : Int) != (0 : Int)) = false) from rfl]
  simp only [cond_false]
  unfold Laa
  simp only [hk]
  cases ht : tkE q.a q.b now (first q) q.v0 q.v1 [] with
  | inl r =>
    left
    have hlen := tkE_len ht
    refine ⟨r, rfl, ?_⟩
    simp only [cond_true, isL_inl, getL_inl]
    exact (cond_dec (show 1 + r.2.2.2.2.2.2.2.2.2.2.2.2.2.1 ≤ r.2.2.2.2.2.2.2.2.2.2.2.2.2.2.length by omega) _ _).trans rfl
  | inr r =>
    right
    refine ⟨r, rfl, ?_⟩
    simp only [cond_true, cond_false, isL_inr, getR_inr, ok_some, val_some]
    rfl
end Go.Proofs.Ythbinbcgjhnijaa
set_option maxRecDepth 100000
set_option maxHeartbeats 1000000
namespace Go.Proofs.Ythbinbcgjhnijaa
open Go Go.AM Go.TM Go.Proofs
def tkM : (Bool × Int × Int × Int × Int × Int × Int × Int × Int × Int × Bool × Bool × List PK × Nat × List QD) ⊕ (Int × Int × List QD × List PK) → (Bool × Int × List (List QD) × Int × Int × Int × Int × Int × Int × Int × Int × Bool × Bool × List PK) ⊕ (Int × Int × List QD × List PK)
  | .inl r => .inl (r.1, r.2.1, [List.take r.2.2.2.2.2.2.2.2.2.2.2.2.2.1 (List.drop 1 r.2.2.2.2.2.2.2.2.2.2.2.2.2.2)], r.2.2.1, r.2.2.2.1, r.2.2.2.2.1, r.2.2.2.2.2.1, r.2.2.2.2.2.2.1, r.2.2.2.2.2.2.2.1, r.2.2.2.2.2.2.2.2.1, r.2.2.2.2.2.2.2.2.2.1, r.2.2.2.2.2.2.2.2.2.2.1, r.2.2.2.2.2.2.2.2.2.2.2.1, r.2.2.2.2.2.2.2.2.2.2.2.2.1)
  | .inr r => .inr r
theorem tkE_step (a b now : Int) (w : QD) (r : List QD) (v0 v1 : Int) (d : List PK) : tkE a b now (w :: r) v0 v1 d = cond ((hitS a b now v0 v1 (now - w.2)).1 && !w.1.2.2.2.2.2.2.1) (tkE a b now r (hitS a b now v0 v1 (now - w.2)).2.1 (hitS a b now v0 v1 (now - w.2)).2.2 (d ++ [w.1]))
      (.inl (true, 0, (hitS a b now v0 v1 (now - w.2)).2.1, (hitS a b now v0 v1 (now - w.2)).2.2, w.1.1, w.1.2.1, w.1.2.2.1, w.1.2.2.2.1, w.1.2.2.2.2.1, w.1.2.2.2.2.2.1, w.1.2.2.2.2.2.2.1, w.1.2.2.2.2.2.2.2 || (hitS a b now v0 v1 (now - w.2)).1, d, (w :: r).length - 1, w :: r)) := by rw [tkE]
theorem tkM_inl (v0 v1 : Int) (w : QD) (r : List QD) (mk : Bool) (d : List PK) : tkM (.inl (true, 0, v0, v1, w.1.1, w.1.2.1, w.1.2.2.1, w.1.2.2.2.1, w.1.2.2.2.2.1, w.1.2.2.2.2.2.1, w.1.2.2.2.2.2.2.1, mk, d, (w :: r).length - 1, w :: r)) = .inl (true, 0, [r], v0, v1, w.1.1, w.1.2.1, w.1.2.2.1, w.1.2.2.2.1, w.1.2.2.2.2.1, w.1.2.2.2.2.2.1, w.1.2.2.2.2.2.2.1, mk, d) := by
  unfold tkM
  simp only [List.length_cons, Nat.add_sub_cancel, List.drop_succ_cons, List.drop_zero, List.take_length]
theorem l15_0 (x1 x4 x5 x14 x15 : Int) (x6 : List (List QD)) (v2 v3 v4 v5 v6 now a b : Int) (x16 x17 x18 x19 x20 x21 x22 x23 x24 x25 x26 x27 x28 x29 x30 x31 x32 x33 x34 x35 : Int) (x36 x37 : Bool) (x40 : List (List QD)) (hn : 0 ≤ now ∧ now ≤ 10000000) (hb : 1 ≤ b ∧ b ≤ 1000000) :
    ∀ (l : List QD) (n : Nat) (v0 v1 m : Int) (d : List PK), l.length < n → (∀ w ∈ l, 0 ≤ w.2 ∧ w.2 ≤ 10000000) → (0 ≤ v0 ∧ v0 ≤ m) → 11000001 ≤ m → m + 1000000 * (l.length : Int) ≤ 9000000000000 → (0 ≤ v1 ∧ v1 ≤ 1000000000) → d.length + l.length ≤ 1000 →
    Lad n now x1 a b x4 x5 x6 v0 v1 v2 v3 v4 v5 v6 x14 x15 x16 x17 x18 x19 x20 x21 x22 x23 x24 x25 x26 x27 x28 x29 x30 x31 x32 x33 x34 x35 x36 x37 l d x40 = some (tkM (tkE a b now l v0 v1 d))
  | [], n + 1, v0, v1, m, d, _, _, _, _, _, _, _ => by
    rw [qLad, decide_eq_false (show ¬ ((([] : List QD).length : Int) > 0) by simp)]
    rfl
  | w :: r, n + 1, v0, v1, m, d, hl, hw, h0, hm, hM, h1, hd => by
    have hlen : (w :: r).length = r.length + 1 := List.length_cons
    have hww := hw w (List.mem_cons_self ..)
    have hg : List.getD (w :: r) (Int.toNat 0) (PKz, (0 : Int)) = w := rfl
    have ht : List.take ((w :: r).length - Int.toNat 1) (List.drop (Int.toNat 1) (w :: r)) = r := by
      show List.take ((w :: r).length - 1) (List.drop 1 (w :: r)) = r
      simp only [List.length_cons, Nat.add_sub_cancel, List.drop_succ_cons, List.drop_zero, List.take_length]
    have hs := step_le hb h1
    have hbd := hitS_bd (a := a) (v0 := v0) (v1 := v1) (wait := now - w.2) hn hb h0 hm h1
    have w1 : IntKind.wrap IntKind.i64 (now + b) = now + b := wrap_id (by omega) (by omega)
    have w2 : IntKind.wrap IntKind.i64 (now + b + 1) = now + b + 1 := wrap_id (by omega) (by omega)
    have w3 : IntKind.wrap IntKind.i64 (v0 - 1) = v0 - 1 := wrap_id (by omega) (by omega)
    have w4 : IntKind.wrap IntKind.i64 (v1 + 1) = v1 + 1 := wrap_id (by omega) (by omega)
    have w5 : IntKind.wrap IntKind.i64 (min 1000000000 (v1 + 1) + 1) = min 1000000000 (v1 + 1) + 1 := wrap_id (by omega) (by omega)
    have w6 : IntKind.wrap IntKind.i64 (Int.tdiv b (min 1000000000 (v1 + 1) + 1)) = Int.tdiv b (min 1000000000 (v1 + 1) + 1) := wrap_id (by omega) (by omega)
    have w7 : IntKind.wrap IntKind.i64 (v0 + max 1 (Int.tdiv b (min 1000000000 (v1 + 1) + 1))) = v0 + max 1 (Int.tdiv b (min 1000000000 (v1 + 1) + 1)) := wrap_id (by omega) (by omega)
    have w8 : IntKind.wrap IntKind.i64 (now - w.2) = now - w.2 := wrap_id (by omega) (by omega)
    have g1 : decide (((w :: r).length : Int) > 0) = true := decide_eq_true (by omega)
    have g2 : decide (Int.toNat 0 < (w :: r).length) = true := decide_eq_true (by rw [hlen]; exact Nat.succ_pos _)
    have g3 : decide (Int.toNat 1 ≤ (w :: r).length) = true := decide_eq_true (by rw [hlen]; show 1 ≤ r.length + 1; omega)
    have g4 : decide ((w :: r).length ≤ (w :: r).length) = true := decide_eq_true (Nat.le_refl _)
    have g5 : decide (Int.toNat 1 + ((w :: r).length - Int.toNat 1) ≤ (w :: r).length) = true := decide_eq_true (by rw [hlen]; show 1 + (r.length + 1 - 1) ≤ r.length + 1; omega)
    have g6 : decide (List.length r ≤ nat_lit 2147483648) = true := len_a (by omega)
    have g7 : decide (min 1000000000 (v1 + 1) + 1 ≠ 0) = true := decide_eq_true (by omega)
    have g8 : ∀ (x : PK), decide (List.length d + List.length [x] ≤ nat_lit 2147483648) = true := fun x => len_b (by omega)
    rw [qLad, g1, cond_true, g2, cond_true, g3, cond_true, g4, cond_true, g5, cond_true, ht, g6, cond_true, hg, w8, tkE_step]
    by_cases c1 : now - w.2 < a
    · have hh : hitS a b now v0 v1 (now - w.2) = (false, 0, 0) := by unfold hitS; rw [decide_eq_true c1, cond_true]
      rw [hh, decide_eq_true c1, cond_true, Bool.false_and, cond_false, tkM_inl, Bool.or_false]
      cases w.1.2.2.2.2.2.2.2 <;> rfl
    rw [decide_eq_false c1, cond_false]
    by_cases c2 : v0 = 0
    · have hh : hitS a b now v0 v1 (now - w.2) = (false, now + b + 1, v1) := by unfold hitS; rw [decide_eq_false c1, cond_false, decide_eq_true c2, cond_true]
      rw [hh, show (v0 == (0 : Int)) = true by simpa using c2, cond_true, Bool.false_and, cond_false, tkM_inl, Bool.or_false, w1, w2]
      cases w.1.2.2.2.2.2.2.2 <;> rfl
    rw [show (v0 == (0 : Int)) = false by simpa using c2, cond_false, w3]
    by_cases c3 : now ≥ v0 - 1
    · have hh : hitS a b now v0 v1 (now - w.2) = (true, v0 + max 1 (Int.tdiv b (min 1000000000 (v1 + 1) + 1)), min 1000000000 (v1 + 1)) := by unfold hitS; rw [decide_eq_false c1, cond_false, decide_eq_false c2, cond_false, decide_eq_true c3, cond_true]
      rw [hh] at hbd
      rw [hh, decide_eq_true c3, cond_true, Bool.true_and, w4, w5, w6, w7, g7, cond_true]
      cases ha : w.1.2.2.2.2.2.2.1 with
      | true =>
        rw [Bool.not_true, cond_false, cond_false]
        have e := tkM_inl (v0 + max 1 (Int.tdiv b (min 1000000000 (v1 + 1) + 1))) (min 1000000000 (v1 + 1)) w r (w.1.2.2.2.2.2.2.2 || true) d
        rw [ha] at e
        rw [e, Bool.or_true]
        cases w.1.2.2.2.2.2.2.2 <;> rfl
      | false =>
        rw [Bool.not_false, cond_true, cond_true, g8, cond_true]
        have ih := l15_0 x1 x4 x5 x14 x15 x6 v2 v3 v4 v5 v6 now a b x16 x17 x18 x19 x20 x21 x22 x23 x24 x25 x26 x27 x28 x29 x30 x31 x32 x33 x34 x35 x36 x37 x40 hn hb r n (v0 + max 1 (Int.tdiv b (min 1000000000 (v1 + 1) + 1))) (min 1000000000 (v1 + 1)) (m + 1000000) (d ++ [w.1]) (by omega) (fun x hx => hw x (List.mem_cons_of_mem _ hx)) hbd.1 (by omega) (by omega) hbd.2 (by rw [List.length_append, List.length_singleton]; omega)
        rw [← ih]
        have ew : (w.1.1, w.1.2.1, w.1.2.2.1, w.1.2.2.2.1, w.1.2.2.2.2.1, w.1.2.2.2.2.2.1, false, w.1.2.2.2.2.2.2.2) = w.1 := by rw [← ha]
        rw [ew]
    · have hh : hitS a b now v0 v1 (now - w.2) = (false, v0, v1) := by unfold hitS; rw [decide_eq_false c1, cond_false, decide_eq_false c2, cond_false, decide_eq_false c3, cond_false]
      rw [hh, decide_eq_false c3, cond_false, Bool.false_and, cond_false, tkM_inl, Bool.or_false]
      cases w.1.2.2.2.2.2.2.2 <;> rfl
theorem v15_eq (q : Qu) (now : Int) (hf : Len (first q)) : v15 q.k q.a q.b q.c q.room q.ls q.v0 q.v1 q.v2 q.v3 q.v4 q.v5 q.v6 q.v7 q.seed now = v14 q.k q.a q.b q.c q.room q.ls q.v0 q.v1 q.v2 q.v3 q.v4 q.v5 q.v6 q.v7 q.seed now := by
  by_cases h : opn q now = 0
  · obtain ⟨hv, hn0, hn1, hn7⟩ := opn_vd h
    have hvd := vd_iff.1 hv
    have hl := hvd.len
    have hro := hvd.room
    have hone := hvd.one
    have hb := hvd.b
    have h0 := hvd.v0
    have h1 := hvd.v1
    have h7 := hvd.v7
    have hat := lst_at (Int.le_refl 0) hvd.lst
    have hk := l15_0 q.k q.c q.room q.v7 q.seed q.ls q.v2 q.v3 q.v4 q.v5 q.v6 now q.a q.b 0 0 0 0 0 0 0 0 0 0 0 0 0 0 0 0 0 0 0 0 false false [] ⟨hn0, hn1⟩ hb (first q) FU q.v0 q.v1 20000000 [] (by show (first q).length < 18446744073709551616; omega)
      (fun w hw => by have := hat w hw; omega) (by omega) (by omega) (by omega) h1 (by simp only [List.length_nil]; omega)
    have e0 : q.ls.getD (Int.toNat (0 : Int)) [] = first q := rfl
    have z : ((0 : Int) != (0 : Int)) = false := rfl
    have g1 : decide ((0 : Int) < (q.ls.length : Int)) = true := decide_eq_true (by omega)
    have g2 : decide ((first q).length ≤ nat_lit 2147483648) = true := len_a (by omega)
    rcases v14_ok q now hf h with ⟨r, hr, e⟩ | ⟨r, hr, e⟩
    · rw [e]
      unfold v15
      rw [v34_eq q now hf, ok_some, cond_true, val_some, h, z, cond_false, g1, cond_true, e0, g2, cond_true, hk, hr]
      rfl
    · rw [e]
      unfold v15
      rw [v34_eq q now hf, ok_some, cond_true, val_some, h, z, cond_false, g1, cond_true, e0, g2, cond_true, hk, hr]
      rfl
  · rw [v14_err q now hf h]
    unfold v15
    rw [v34_eq q now hf, ok_some, cond_true, val_some, show (opn q now != 0) = true by simpa using h, cond_true]
theorem tkE_bd {a b now : Int} : ∀ {l : List QD} {v0 v1 : Int} {d : List PK}, (∀ r, tkE a b now l v0 v1 d = .inl r → r.2.2.2.2.2.2.2.2.2.2.2.2.2.2.length ≤ l.length ∧ r.2.2.2.2.2.2.2.2.2.2.2.2.1.length ≤ d.length + l.length) ∧
    (∀ r, tkE a b now l v0 v1 d = .inr r → r.2.2.1 = [] ∧ r.2.2.2.length ≤ d.length + l.length)
  | [], v0, v1, d => ⟨fun r hr => (by rw [tkE] at hr; cases hr), fun r hr => (by rw [tkE] at hr; cases hr; exact ⟨rfl, Nat.le_refl _⟩)⟩
  | w :: l, v0, v1, d => by
    rw [tkE_step]
    cases hc : ((hitS a b now v0 v1 (now - w.2)).1 && !w.1.2.2.2.2.2.2.1) with
    | true =>
      rw [cond_true]
      have ih := tkE_bd (a := a) (b := b) (now := now) (l := l) (v0 := (hitS a b now v0 v1 (now - w.2)).2.1) (v1 := (hitS a b now v0 v1 (now - w.2)).2.2) (d := d ++ [w.1])
      have e : (d ++ [w.1]).length = d.length + 1 := by rw [List.length_append, List.length_singleton]
      refine ⟨fun r hr => ?_, fun r hr => ?_⟩
      · obtain ⟨h1, h2⟩ := ih.1 r hr
        rw [e] at h2
        exact ⟨by rw [List.length_cons]; omega, by rw [List.length_cons]; omega⟩
      · obtain ⟨h1, h2⟩ := ih.2 r hr
        rw [e] at h2
        exact ⟨h1, by rw [List.length_cons]; omega⟩
    | false =>
      rw [cond_false]
      refine ⟨fun r hr => ?_, fun r hr => ?_⟩
      · cases hr; exact ⟨Nat.le_refl _, Nat.le_add_right _ _⟩
      · cases hr
theorem v14_len (q : Qu) (now : Int) (hf : Len (first q)) : ∃ r, v14 q.k q.a q.b q.c q.room q.ls q.v0 q.v1 q.v2 q.v3 q.v4 q.v5 q.v6 q.v7 q.seed now = some r ∧ r.2.2.2.2.2.1.length ≤ 1 ∧ (∀ x ∈ r.2.2.2.2.2.1, x.length ≤ 1000) ∧ r.2.2.2.2.2.2.2.2.2.2.2.2.2.2.2.2.2.2.2.2.2.2.2.2.1.length ≤ 1000 := by
  by_cases h : opn q now = 0
  · have hl := len_first (opn_vd h).1
    rcases v14_ok q now hf h with ⟨r, hr, e⟩ | ⟨r, hr, e⟩
    · obtain ⟨h1, h2⟩ := tkE_bd.1 r hr
      refine ⟨_, e, Nat.le_refl _, fun x hx => ?_, ?_⟩
      · rw [List.mem_singleton.1 hx]
        have := List.length_take_le r.2.2.2.2.2.2.2.2.2.2.2.2.2.1 (List.drop 1 r.2.2.2.2.2.2.2.2.2.2.2.2.2.2)
        have h3 := List.length_take_le' r.2.2.2.2.2.2.2.2.2.2.2.2.2.1 (List.drop 1 r.2.2.2.2.2.2.2.2.2.2.2.2.2.2)
        rw [List.length_drop] at h3
        omega
      · show r.2.2.2.2.2.2.2.2.2.2.2.2.1.length ≤ 1000
        simp only [List.length_nil] at h2
        omega
    · obtain ⟨h1, h2⟩ := tkE_bd.2 r hr
      refine ⟨_, e, Nat.le_refl _, fun x hx => ?_, ?_⟩
      · rw [List.mem_singleton.1 hx, h1]; exact Nat.zero_le _
      · show r.2.2.2.length ≤ 1000
        simp only [List.length_nil] at h2
        omega
  · exact ⟨_, v14_err q now hf h, Nat.zero_le _, fun x hx => (by cases hx), Nat.zero_le _⟩
theorem putR_len (q : Qu) (p : PK) (now : Int) : (putR q p now).2.2.2.2.2.1.length ≤ 1 ∧ (∀ x ∈ (putR q p now).2.2.2.2.2.1, x.length ≤ 1000) ∧ (putR q p now).2.2.2.2.2.2.2.2.2.2.2.2.2.2.2.1.length ≤ 1000 := by
  unfold putR
  cases pkOk p with
  | false => rw [cond_false]; exact ⟨Nat.zero_le _, fun x hx => (by cases hx), Nat.zero_le _⟩
  | true =>
    rw [cond_true]
    by_cases h : opn q now = 0
    · have hl := len_first (opn_vd h).1
      rw [decide_eq_true h, cond_true]
      cases decide (((first q).length : Int) ≥ q.room) with
      | true => rw [cond_true]; exact ⟨Nat.le_refl _, fun x hx => (by rw [List.mem_singleton.1 hx]; omega), by show 1 ≤ 1000; omega⟩
      | false => rw [cond_false]; exact ⟨Nat.le_refl _, fun x hx => (by rw [List.mem_singleton.1 hx, List.length_append, List.length_singleton]; omega), Nat.zero_le _⟩
    · rw [decide_eq_false h, cond_false]
      exact ⟨Nat.zero_le _, fun x hx => (by cases hx), Nat.zero_le _⟩
end Go.Proofs.Ythbinbcgjhnijaa
set_option maxRecDepth 100000
namespace Go.Proofs.Ythbinbcgjhnijaa
open Go Go.AM Go.TM Go.Proofs
theorem v17_self (l : List PK) (hl : Len l) : v17 l l = some true := by
  have hl' : l.length ≤ 9223372036854775807 := hl
  have h0 : Lai FU l l 0 = some (cond ((List.range l.length).all fun _ => true) (.inr ()) (.inl false)) := by
    refine all_loop (m := l.length) hl' (fun n j => Lai n l l j) _ (fun n i hi => ?_) fun n => ?_
    · show Lai (n + 1) _ _ _ = _
      rw [qLai, decide_eq_true (show (i : Int) < (l.length : Int) by omega), decide_eq_true (show (0 : Int) ≤ (i : Int) by omega), up1 (by omega)]
      simp
    · show Lai (n + 1) _ _ _ = _
      rw [qLai, decide_eq_false (show ¬ (l.length : Int) < (l.length : Int) by omega)]
      rfl
  unfold v17
  rw [h0, show ((List.range l.length).all fun _ => true) = true by simp]
  simp
theorem v28_self (l : List QD) (hl : Len l) : v28 l l = some true := by
  have hl' : l.length ≤ 9223372036854775807 := hl
  have h0 : Lag FU l l 0 = some (cond ((List.range l.length).all fun _ => true) (.inr ()) (.inl false)) := by
    refine all_loop (m := l.length) hl' (fun n j => Lag n l l j) _ (fun n i hi => ?_) fun n => ?_
    · show Lag (n + 1) _ _ _ = _
      rw [qLag, decide_eq_true (show (i : Int) < (l.length : Int) by omega), decide_eq_true (show (0 : Int) ≤ (i : Int) by omega), up1 (by omega)]
      simp
    · show Lag (n + 1) _ _ _ = _
      rw [qLag, decide_eq_false (show ¬ (l.length : Int) < (l.length : Int) by omega)]
      rfl
  unfold v28
  rw [h0, show ((List.range l.length).all fun _ => true) = true by simp]
  simp
end Go.Proofs.Ythbinbcgjhnijaa
set_option maxRecDepth 100000
set_option maxHeartbeats 1000000
namespace Go.Proofs.Ythbinbcgjhnijaa
open Go Go.AM Go.TM Go.Proofs
theorem l16 (k a b c room : Int) (ls : List (List QD)) (v0 v1 v2 v3 v4 v5 v6 v7 seed : Int) (hl : ls.length ≤ 1) (hx : ∀ x ∈ ls, x.length ≤ 1000) : ∀ (m n i : Nat), i + m = ls.length → m < n → Lal n (i : Int) k a b c room ls v0 v1 v2 v3 v4 v5 v6 v7 seed k a b c room ls v0 v1 v2 v3 v4 v5 v6 v7 seed = some (.inr ()) := by
  intro m
  induction m with
  | zero =>
    intro n i h1 h2
    cases n with
    | zero => omega
    | succ n =>
    rw [qLal, decide_eq_false (show ¬ (i : Int) < (ls.length : Int) by omega), cond_false]
  | succ m ih =>
    intro n i h1 h2
    cases n with
    | zero => omega
    | succ n =>
    have hi : i < ls.length := by omega
    have e : v28 (ls.getD i []) (ls.getD i []) = some true := v28_self _ (by
      have hm : ls.getD i [] ∈ ls := by rw [List.getD_eq_getElem?_getD, List.getElem?_eq_getElem hi]; exact List.getElem_mem hi
      have := hx _ hm
      show (ls.getD i []).length ≤ 9223372036854775807
      omega)
    rw [qLal, decide_eq_true (show (i : Int) < (ls.length : Int) by omega), decide_eq_true (show (0 : Int) ≤ (i : Int) by omega), cond_true, cond_true, cond_true, Int.toNat_natCast, e, ok_some, val_some, cond_true, Bool.not_true, cond_false, up1 (by omega)]
    exact ih n (i + 1) (by omega) (by omega)
theorem v16_self (k a b c room : Int) (ls : List (List QD)) (v0 v1 v2 v3 v4 v5 v6 v7 seed : Int) (hl : ls.length ≤ 1) (hx : ∀ x ∈ ls, x.length ≤ 1000) : v16 k a b c room ls v0 v1 v2 v3 v4 v5 v6 v7 seed k a b c room ls v0 v1 v2 v3 v4 v5 v6 v7 seed = some true := by
  have h := l16 k a b c room ls v0 v1 v2 v3 v4 v5 v6 v7 seed hl hx ls.length FU 0 (by omega) (by show ls.length < 18446744073709551616; omega)
  have h' : Lal FU 0 k a b c room ls v0 v1 v2 v3 v4 v5 v6 v7 seed k a b c room ls v0 v1 v2 v3 v4 v5 v6 v7 seed = some (.inr ()) := h
  unfold v16
  rw [h']
  simp only [beq_self_eq_true, Bool.and_true, Bool.not_true, cond_false, bne_self_eq_false]
  rfl
theorem v3_true (q : Qu) (p : PK) (now : Int) (hls : Len q.ls) : v3 q.k q.a q.b q.c q.room q.ls q.v0 q.v1 q.v2 q.v3 q.v4 q.v5 q.v6 q.v7 q.seed p.1 p.2.1 p.2.2.1 p.2.2.2.1 p.2.2.2.2.1 p.2.2.2.2.2.1 p.2.2.2.2.2.2.1 p.2.2.2.2.2.2.2 now = some true := by
  unfold v3
  obtain ⟨x, hx, hxl⟩ := v11_eq q hls
  rw [hx, ok_some, cond_true, val_some]
  cases x with
  | false => rfl
  | true =>
    have hf := hxl rfl
    have key : Lat now (val v10) q.k q.a q.b q.c q.room q.ls q.v0 q.v1 q.v2 q.v3 q.v4 q.v5 q.v6 q.v7 q.seed p.1 p.2.1 p.2.2.1 p.2.2.2.1 p.2.2.2.2.1 p.2.2.2.2.2.1 p.2.2.2.2.2.2.1 p.2.2.2.2.2.2.2 = some true := by
      have h10 : val v10 = true := rfl
      obtain ⟨r, e14, b1, b2, b3⟩ := v14_len q now hf
      have e15 := (v15_eq q now hf).trans e14
      have e12 := v12_eq q p now hf
      have e13 := v13_eq q p now hf
      have c123 := putR_len q p now
      have e18 := v18_eq q hf
      have e19 := v19_eq q hf
      generalize putR q p now = X at e12 e13 c123
      generalize vd q = y at e18 e19
      obtain ⟨c1, c2, c3⟩ := c123
      unfold Lat
      rw [e12, e13, e14, e15, e18, e19, h10]
      simp only [ok_some, val_some, cond_true]
      rw [v16_self X.1 X.2.1 X.2.2.1 X.2.2.2.1 X.2.2.2.2.1 X.2.2.2.2.2.1 X.2.2.2.2.2.2.1 X.2.2.2.2.2.2.2.1 X.2.2.2.2.2.2.2.2.1 X.2.2.2.2.2.2.2.2.2.1 X.2.2.2.2.2.2.2.2.2.2.1 X.2.2.2.2.2.2.2.2.2.2.2.1 X.2.2.2.2.2.2.2.2.2.2.2.2.1 X.2.2.2.2.2.2.2.2.2.2.2.2.2.1 X.2.2.2.2.2.2.2.2.2.2.2.2.2.2.1 c1 c2]
      simp only [ok_some, val_some, cond_true]
      rw [v17_self X.2.2.2.2.2.2.2.2.2.2.2.2.2.2.2.1 (show X.2.2.2.2.2.2.2.2.2.2.2.2.2.2.2.1.length ≤ 9223372036854775807 by omega)]
      simp only [ok_some, val_some, cond_true, beq_self_eq_true]
      rw [v16_self r.1 r.2.1 r.2.2.1 r.2.2.2.1 r.2.2.2.2.1 r.2.2.2.2.2.1 r.2.2.2.2.2.2.1 r.2.2.2.2.2.2.2.1 r.2.2.2.2.2.2.2.2.1 r.2.2.2.2.2.2.2.2.2.1 r.2.2.2.2.2.2.2.2.2.2.1 r.2.2.2.2.2.2.2.2.2.2.2.1 r.2.2.2.2.2.2.2.2.2.2.2.2.1 r.2.2.2.2.2.2.2.2.2.2.2.2.2.1 r.2.2.2.2.2.2.2.2.2.2.2.2.2.2.1 b1 b2]
      simp only [ok_some, val_some, cond_true, beq_self_eq_true, Bool.and_true]
      rw [v17_self r.2.2.2.2.2.2.2.2.2.2.2.2.2.2.2.2.2.2.2.2.2.2.2.2.1 (show r.2.2.2.2.2.2.2.2.2.2.2.2.2.2.2.2.2.2.2.2.2.2.2.2.1.length ≤ 9223372036854775807 by omega)]
      simp only [ok_some, val_some, cond_true]
    rw [Bool.not_true, cond_false, key]
    rfl
end Go.Proofs.Ythbinbcgjhnijaa
set_option maxRecDepth 100000
namespace Go.Proofs.Ythbinbcgjhnijaa
open Go Go.ChangeShapes Go.WideShapes Go.ChangeAt Go.RowKit Go.AM Go.TM
theorem own0 : ownKnob Try.prog.godebug = none := by kernel_rfl
theorem laid0 : laidOutB Try.prog = true := by kernel_rfl
abbrev taus : List Ty := [.pair (.pair (.int .i64) (.pair (.int .i64) (.pair (.int .i64) (.int .i64)))) (.pair (.int .i64) (.pair (.list 51 (.list 55 QDy)) (.pair (.pair (.int .i64) (.pair (.int .i64) (.pair (.int .i64) (.pair (.int .i64) (.pair (.int .i64) (.pair (.int .i64) (.pair (.int .i64) (.int .i64)))))))) (.int .u64)))), .pair (.int .i64) (.pair (.int .i64) (.pair (.int .i64) (.pair (.int .i64) (.pair (.int .i64) (.pair (.int .i64) (.pair .bool .bool)))))), .int .i64]
theorem args0 (x : (((Int × (Int × (Int × Int))) × (Int × ((List (List (PKt × Int))) × ((Int × (Int × (Int × (Int × (Int × (Int × (Int × Int))))))) × Int))))) × (PKt) × (Int) × Unit) : WX Try.prog Try.f3.params.toList taus x = [.agg [.int .i64 x.1.1.1, .int .i64 x.1.1.2.1, .int .i64 x.1.1.2.2.1, .int .i64 x.1.1.2.2.2, .int .i64 x.1.2.1, .d 51 (.list 55 QDy) x.1.2.2.1, .int .i64 x.1.2.2.2.1.1, .int .i64 x.1.2.2.2.1.2.1, .int .i64 x.1.2.2.2.1.2.2.1, .int .i64 x.1.2.2.2.1.2.2.2.1, .int .i64 x.1.2.2.2.1.2.2.2.2.1, .int .i64 x.1.2.2.2.1.2.2.2.2.2.1, .int .i64 x.1.2.2.2.1.2.2.2.2.2.2.1, .int .i64 x.1.2.2.2.1.2.2.2.2.2.2.2, .int .u64 x.1.2.2.2.2], .agg [.int .i64 x.2.1.1, .int .i64 x.2.1.2.1, .int .i64 x.2.1.2.2.1, .int .i64 x.2.1.2.2.2.1, .int .i64 x.2.1.2.2.2.2.1, .int .i64 x.2.1.2.2.2.2.2.1, .bool x.2.1.2.2.2.2.2.2.1, .bool x.2.1.2.2.2.2.2.2.2], .sc (.int .i64 x.2.2.1)] := by
  kernel_rfl
theorem law_v (x : (((Int × (Int × (Int × Int))) × (Int × ((List (List (PKt × Int))) × ((Int × (Int × (Int × (Int × (Int × (Int × (Int × Int))))))) × Int))))) × (PKt) × (Int) × Unit) (hx : UI taus x) : v3 x.1.1.1 x.1.1.2.1 x.1.1.2.2.1 x.1.1.2.2.2 x.1.2.1 x.1.2.2.1 x.1.2.2.2.1.1 x.1.2.2.2.1.2.1 x.1.2.2.2.1.2.2.1 x.1.2.2.2.1.2.2.2.1 x.1.2.2.2.1.2.2.2.2.1 x.1.2.2.2.1.2.2.2.2.2.1 x.1.2.2.2.1.2.2.2.2.2.2.1 x.1.2.2.2.1.2.2.2.2.2.2.2 x.1.2.2.2.2 x.2.1.1 x.2.1.2.1 x.2.1.2.2.1 x.2.1.2.2.2.1 x.2.1.2.2.2.2.1 x.2.1.2.2.2.2.2.1 x.2.1.2.2.2.2.2.2.1 x.2.1.2.2.2.2.2.2.2 x.2.2.1 = some true := by
  have h : Len (show List (List QD) from x.1.2.2.1) := (hx.1).2.2.1.1
  exact v3_true ⟨x.1.1.1, x.1.1.2.1, x.1.1.2.2.1, x.1.1.2.2.2, x.1.2.1, x.1.2.2.1, x.1.2.2.2.1.1, x.1.2.2.2.1.2.1, x.1.2.2.2.1.2.2.1, x.1.2.2.2.1.2.2.2.1, x.1.2.2.2.1.2.2.2.2.1, x.1.2.2.2.1.2.2.2.2.2.1, x.1.2.2.2.1.2.2.2.2.2.2.1, x.1.2.2.2.1.2.2.2.2.2.2.2, x.1.2.2.2.2⟩ x.2.1 x.2.2.1 h
theorem law_run : ∀ x : Tup taus, UI taus x → ∃ k H', TM.evF Try.prog (zj base o54 t54) dOk k 3 (WX Try.prog Try.f3.params.toList taus x) [] = some ([.sc (.bool true)], H') := by
  intro x hx
  have e := args0 x
  rw [e]
  refine ⟨41, [], ?_⟩
  rw [zW (by kernel_rfl), ev3, law_v x hx]
  rfl
theorem law_lifted (os : Os) (started : os.Started) (H : Type) (enc : TypeId × Value → H) :
    ReturnsInHanded {} Try.checked os 3 .any (Rows.sojournMatchesReferenceSpec.pre6 enc Try.prog Try.f3 Rows.sojournMatchesReferenceRow.domain false) (Rows.sojournMatchesReferenceSpec.post enc Try.prog Try.f3 false true false false) :=
  law_tm (C := Try.checked) (τs := taus) (tb := 4) (base := base) (O := o54) (T := t54) own0 started (by kernel_rfl) Try.func3
    (ChangeSpec.witness6 (enc := enc) (C := Try.checked) false ⟨#[], #[.agg #[.int .i64 0, .int .i64 0, .int .i64 0, .int .i64 0, .int .i64 0, .slice none 0 0, .int .i64 0, .int .i64 0, .int .i64 0, .int .i64 0, .int .i64 0, .int .i64 0, .int .i64 0, .int .i64 0, .int .u64 0], .agg #[.int .i64 0, .int .i64 0, .int .i64 0, .int .i64 0, .int .i64 0, .int .i64 0, .bool false, .bool false], .int .i64 0], []⟩ 8 (by kernel_rfl) (by kernel_rfl) (by kernel_rfl) (by kernel_rfl))
    laid0 (by kernel_rfl) (by kernel_rfl) rfl (by kernel_rfl) names mixed ok54 (by kernel_rfl) (by kernel_rfl)
    (fun ds h => by
      match ds, h with
      | [_, _, _], _ => rfl)
    law_run
theorem sojournMatchesReference_holds : Rows.SojournMatchesReferenceSaid :=
  OpenClaim.holds_of_wide 3 Try.f3 rfl rfl rfl rfl rfl rfl rfl ⟨rfl, rfl, rfl, rfl, rfl⟩ rfl rfl rfl rfl rfl (by kernel_rfl) Try.func3 (by kernel_rfl)
    (of_decide_eq_true (by kernel_rfl)) (by unfold Func.isWrapper; first | (rw [if_pos (by decide +kernel)]; kernel_rfl) | (rw [if_neg (by decide +kernel)]; exact ⟨rfl, rfl⟩))
    (fun os started H enc _ => law_lifted os started H enc)
end Go.Proofs.Ythbinbcgjhnijaa
