/- PricesOrder: it returns true at every input; no conditions. -/
import Derived.Test.YtajodcnnadbjkaaG2
import Derived.Test.YtajodcnnadbjkaaRows
import Derived.ProofKit
set_option linter.all false
set_option linter.constructorNameAsVariable false
set_option linter.unnecessarySimpa false
set_option linter.unusedSimpArgs false
set_option linter.unusedVariables false
set_option linter.unusedVariables false
namespace Go.TM
open Go Go.AM
@[simp] theorem ok_some {α : Type} (x : α) : ok (some x) = true := rfl
@[simp] theorem val_some {α : Type} [Inhabited α] (x : α) : val (some x) = x := rfl
@[simp] theorem isL_inl {α β : Type} (x : α) : isL (some (.inl x : α ⊕ β)) = true := rfl
@[simp] theorem isL_inr {α β : Type} (x : β) : isL (some (.inr x : α ⊕ β)) = false := rfl
@[simp] theorem getL_inl {α β : Type} [Inhabited α] (x : α) : getL (some (.inl x : α ⊕ β)) = x := rfl
@[simp] theorem getR_inr {α β : Type} (x : β) : getR (some (.inr x : α ⊕ β)) = some x := rfl
theorem cond_nb {α : Type} (b : Bool) (x y : α) : cond (!b) x y = cond b y x := by cases b <;> rfl
theorem wrap_id {x : Int} (h1 : -9223372036854775808 ≤ x) (h2 : x ≤ 9223372036854775807) : IntKind.wrap IntKind.i64 x = x := by
  simp [IntKind.wrap, IntKind.bits, IntKind.signed]
  omega
theorem up1 {i : Nat} (h : i < 9223372036854775807) : IntKind.wrap IntKind.i64 ((i : Int) + 1) = ((i + 1 : Nat) : Int) := by rw [wrap_id (by omega) (by omega)]; omega
theorem dn1 {i : Nat} (h0 : 0 < i) (h : i ≤ 9223372036854775807) : IntKind.wrap IntKind.i64 ((i : Int) - 1) = ((i - 1 : Nat) : Int) := by rw [wrap_id (by omega) (by omega)]; omega
theorem getD_drop {α : Type} {l : List α} {i : Nat} (h : i < l.length) (d : α) : l.drop i = l.getD i d :: l.drop (i + 1) := by
  rw [List.drop_eq_getElem_cons h]
  congr 1
  simp [List.getD, List.getElem?_eq_getElem h]
theorem getD_in {α : Type} {l : List α} {i : Nat} (h : i < l.length) (d : α) : l.getD i d ∈ l := by
  have : l.getD i d = l[i] := by simp [List.getD, List.getElem?_eq_getElem h]
  rw [this]; exact List.getElem_mem h
abbrev Len {α : Type} (l : List α) : Prop := l.length ≤ 9223372036854775807
theorem and_cond (p q : Prop) [Decidable p] [Decidable q] : cond (decide p) (some (decide q)) (some false) = some (decide (p ∧ q)) := by
  by_cases h : p <;> simp [h]
theorem nand_cond (p q : Prop) [Decidable p] [Decidable q] : cond (decide p) (some false) (some (decide q)) = some (decide (¬ p ∧ q)) := by
  by_cases h : p <;> simp [h]
theorem bne_dec (x y : Int) : (x != y) = !decide (x = y) := rfl
theorem beq_dec (x y : Int) : (x == y) = decide (x = y) := rfl
theorem all_loop {m : Nat} (hm : m ≤ 9223372036854775807) (F : Nat → Int → Option (Bool ⊕ Unit)) (g : Nat → Bool)
    (hs : ∀ n (i : Nat), i < m → F (n + 1) (i : Int) = cond (g i) (F n ((i + 1 : Nat) : Int)) (some (.inl false))) (he : ∀ n, F (n + 1) (m : Int) = some (.inr ())) :
    F FU 0 = some (cond ((List.range m).all g) (.inr ()) (.inl false)) := by
  have key : ∀ (k n i : Nat), i + k = m → k < n → F n (i : Int) = some (cond ((List.range' i k).all g) (.inr ()) (.inl false)) := by
    intro k
    induction k with
    | zero =>
      intro n i h1 h2
      cases n with
      | zero => omega
      | succ n =>
        have : i = m := by omega
        subst this
        rw [he]; rfl
    | succ k ih =>
      intro n i h1 h2
      cases n with
      | zero => omega
      | succ n =>
        rw [hs n i (by omega), ih n (i + 1) (by omega) (by omega), List.range'_succ, List.all_cons]
        cases g i <;> rfl
  have := key m FU 0 (by omega) (by unfold FU; omega)
  rw [List.range_eq_range']
  exact this
theorem any_loop {m : Nat} (hm : m ≤ 9223372036854775807) (F : Nat → Int → Option (Bool ⊕ Unit)) (g : Nat → Bool)
    (hs : ∀ n (i : Nat), i < m → F (n + 1) (i : Int) = cond (g i) (some (.inl true)) (F n ((i + 1 : Nat) : Int))) (he : ∀ n, F (n + 1) (m : Int) = some (.inr ())) :
    F FU 0 = some (cond ((List.range m).any g) (.inl true) (.inr ())) := by
  have key : ∀ (k n i : Nat), i + k = m → k < n → F n (i : Int) = some (cond ((List.range' i k).any g) (.inl true) (.inr ())) := by
    intro k
    induction k with
    | zero =>
      intro n i h1 h2
      cases n with
      | zero => omega
      | succ n =>
        have : i = m := by omega
        subst this
        rw [he]; rfl
    | succ k ih =>
      intro n i h1 h2
      cases n with
      | zero => omega
      | succ n =>
        rw [hs n i (by omega), ih n (i + 1) (by omega) (by omega), List.range'_succ, List.any_cons]
        cases g i <;> rfl
  have := key m FU 0 (by omega) (by unfold FU; omega)
  rw [List.range_eq_range']
  exact this
theorem find_loop {m : Nat} (hm : m ≤ 9223372036854775807) (F : Nat → Int → Option (Int ⊕ Unit)) (g : Nat → Bool)
    (hs : ∀ n (i : Nat), i < m → F (n + 1) (i : Int) = cond (g i) (some (.inl (i : Int))) (F n ((i + 1 : Nat) : Int))) (he : ∀ n, F (n + 1) (m : Int) = some (.inr ())) :
    (∃ j : Nat, j < m ∧ F FU 0 = some (.inl (j : Int)) ∧ g j = true ∧ ∀ i, i < j → g i = false) ∨ (F FU 0 = some (.inr ()) ∧ ∀ i, i < m → g i = false) := by
  have key : ∀ (k n i : Nat), i + k = m → k < n → (∃ j : Nat, i ≤ j ∧ j < m ∧ F n (i : Int) = some (.inl (j : Int)) ∧ g j = true ∧ ∀ x, i ≤ x → x < j → g x = false) ∨ (F n (i : Int) = some (.inr ()) ∧ ∀ x, i ≤ x → x < m → g x = false) := by
    intro k
    induction k with
    | zero =>
      intro n i h1 h2
      cases n with
      | zero => omega
      | succ n =>
        have : i = m := by omega
        subst this
        exact .inr ⟨he n, fun x h1 h2 => by omega⟩
    | succ k ih =>
      intro n i h1 h2
      cases n with
      | zero => omega
      | succ n =>
        rw [hs n i (by omega)]
        cases hg : g i with
        | true => exact .inl ⟨i, Nat.le_refl _, by omega, rfl, hg, fun x h1 h2 => by omega⟩
        | false =>
          rcases ih n (i + 1) (by omega) (by omega) with ⟨j, h3, h4, h5, h6, h7⟩ | ⟨h3, h4⟩
          · refine .inl ⟨j, by omega, h4, h5, h6, fun x hx1 hx2 => ?_⟩
            by_cases e : x = i
            · rw [e]; exact hg
            · exact h7 x (by omega) hx2
          · refine .inr ⟨h3, fun x hx1 hx2 => ?_⟩
            by_cases e : x = i
            · rw [e]; exact hg
            · exact h4 x (by omega) hx2
  rcases key m FU 0 (by omega) (by unfold FU; omega) with ⟨j, h3, h4, h5, h6, h7⟩ | ⟨h3, h4⟩
  · exact .inl ⟨j, h4, h5, h6, fun x hx => h7 x (by omega) hx⟩
  · exact .inr ⟨h3, fun x hx => h4 x (by omega) hx⟩
theorem fold_loop {m : Nat} (hm : m ≤ 9223372036854775807) {σ ρ : Type} (F : Nat → Int → σ → Option ρ) (f : Nat → σ → σ) (I : Nat → σ → Prop) (fin : σ → ρ)
    (hs : ∀ n (i : Nat) s, i < m → I i s → F (n + 1) (i : Int) s = F n ((i + 1 : Nat) : Int) (f i s)) (hI : ∀ i s, i < m → I i s → I (i + 1) (f i s)) (he : ∀ n s, I m s → F (n + 1) (m : Int) s = some (fin s)) {s0 : σ} (h0 : I 0 s0) :
    F FU 0 s0 = some (fin ((List.range m).foldl (fun s i => f i s) s0)) ∧ I m ((List.range m).foldl (fun s i => f i s) s0) := by
  have key : ∀ (k n i : Nat) (s : σ), i + k = m → k < n → I i s → F n (i : Int) s = some (fin ((List.range' i k).foldl (fun s i => f i s) s)) ∧ I m ((List.range' i k).foldl (fun s i => f i s) s) := by
    intro k
    induction k with
    | zero =>
      intro n i s h1 h2 h3
      cases n with
      | zero => omega
      | succ n =>
        have : i = m := by omega
        subst this
        exact ⟨he n s h3, h3⟩
    | succ k ih =>
      intro n i s h1 h2 h3
      cases n with
      | zero => omega
      | succ n =>
        rw [hs n i s (by omega) h3, List.range'_succ, List.foldl_cons]
        exact ih n (i + 1) _ (by omega) (by omega) (hI i s (by omega) h3)
  have := key m FU 0 s0 (by omega) (by unfold FU; omega) h0
  rw [List.range_eq_range']
  exact this
theorem all_range {α : Type} (l : List α) (d : α) (p : α → Bool) : (List.range l.length).all (fun i => p (l.getD i d)) = l.all p := by
  apply Bool.eq_iff_iff.2
  simp only [List.all_eq_true, List.mem_range]
  constructor
  · intro h x hx
    obtain ⟨i, hi, rfl⟩ := List.getElem_of_mem hx
    have := h i hi
    simpa [List.getD, List.getElem?_eq_getElem hi] using this
  · intro h i hi
    exact h _ (getD_in hi d)
theorem any_range {α : Type} (l : List α) (d : α) (p : α → Bool) : (List.range l.length).any (fun i => p (l.getD i d)) = l.any p := by
  apply Bool.eq_iff_iff.2
  simp only [List.any_eq_true, List.mem_range]
  constructor
  · rintro ⟨i, hi, h⟩; exact ⟨_, getD_in hi d, h⟩
  · rintro ⟨x, hx, h⟩
    obtain ⟨i, hi, rfl⟩ := List.getElem_of_mem hx
    exact ⟨i, hi, by simpa [List.getD, List.getElem?_eq_getElem hi] using h⟩
theorem map_range {α : Type} (l : List α) (d : α) : (List.range l.length).map (fun i => l.getD i d) = l := by
  apply List.ext_getElem?
  intro i
  rw [List.getElem?_map]
  by_cases hi : i < l.length
  · rw [List.getElem?_range hi]
    simp [List.getD, List.getElem?_eq_getElem hi]
  · rw [List.getElem?_eq_none (by simpa using hi), List.getElem?_eq_none (by omega)]; rfl
theorem foldl_range {α σ : Type} (l : List α) (d : α) (g : σ → α → σ) (s : σ) : (List.range l.length).foldl (fun s i => g s (l.getD i d)) s = l.foldl g s := by
  conv => rhs; rw [← map_range l d, List.foldl_map]
end Go.TM
set_option linter.unusedVariables false
namespace Go.Proofs.Ytajodcnnadbjkaa
open Go Go.AM Go.TM Go.Proofs
abbrev Fl := List (List (List Int))
def fewF (flows : Fl) : Bool := flows.all fun f => cond (decide (f.length ≤ 20)) (f.all fun l => decide (l.length ≤ 20)) false
def fewS (caps : List Int) (flows : Fl) (rates : List (List Int)) (prices : List Int) : Bool :=
  decide (caps.length ≤ 20) && (decide (flows.length ≤ 20) && (decide (rates.length ≤ 20) && (decide (prices.length ≤ 20) && (fewF flows && rates.all fun l => decide (l.length ≤ 20)))))
theorem dgt (a : Nat) : decide ((a : Int) > 20) = !decide (a ≤ 20) := by
  by_cases h : a ≤ 20
  · rw [decide_eq_true h, decide_eq_false (by omega)]; rfl
  · rw [decide_eq_false h, decide_eq_true (by omega)]; rfl
theorem l10_16 (rates : List (List Int)) (caps : List Int) (flows : Fl) {i : Nat} (hi : i < flows.length) (hf : (flows.getD i []).length ≤ 20) :
    L10_16_0 FU rates (i : Int) 0 caps flows = some (cond ((flows.getD i []).all fun l => decide (l.length ≤ 20)) (.inr ()) (.inl false)) := by
  rw [← all_range (flows.getD i []) [] fun l => decide (l.length ≤ 20)]
  refine all_loop (m := (flows.getD i []).length) (by omega) (fun n j => L10_16_0 n rates (i : Int) j caps flows) _ (fun n j hj => ?_) fun n => ?_
  · show L10_16_0 (n + 1) _ _ _ _ _ = _
    rw [qL10_16_0, decide_eq_true (show (0 : Int) ≤ (i : Int) by omega), decide_eq_true (show (i : Int) < (flows.length : Int) by omega)]
    simp only [cond_true, Int.toNat_natCast]
    rw [decide_eq_true (show (j : Int) < ((flows.getD i []).length : Int) by omega), decide_eq_true (show (0 : Int) ≤ (j : Int) by omega), up1 (by omega), dgt]
    simp only [cond_true, cond_nb]
  · show L10_16_0 (n + 1) _ _ _ _ _ = _
    rw [qL10_16_0, decide_eq_true (show (0 : Int) ≤ (i : Int) by omega), decide_eq_true (show (i : Int) < (flows.length : Int) by omega)]
    simp only [cond_true, Int.toNat_natCast]
    rw [decide_eq_false (show ¬ ((flows.getD i []).length : Int) < ((flows.getD i []).length : Int) by omega)]
    rfl
theorem l10_0 (rates : List (List Int)) (caps : List Int) (flows : Fl) (hl : flows.length ≤ 20) : L10_0_0 FU rates 0 caps flows = some (cond (fewF flows) (.inr ()) (.inl false)) := by
  unfold fewF
  rw [← all_range flows [] fun f => cond (decide (f.length ≤ 20)) (f.all fun l => decide (l.length ≤ 20)) false]
  refine all_loop (m := flows.length) (by omega) (fun n j => L10_0_0 n rates j caps flows) _ (fun n i hi => ?_) fun n => ?_
  · show L10_0_0 (n + 1) _ _ _ _ = _
    rw [qL10_0_0, decide_eq_true (show (i : Int) < (flows.length : Int) by omega), decide_eq_true (show (0 : Int) ≤ (i : Int) by omega), up1 (by omega), dgt]
    simp only [cond_true, Int.toNat_natCast, cond_nb]
    by_cases h : (flows.getD i []).length ≤ 20
    · rw [decide_eq_true h, l10_16 rates caps flows hi h]
      simp only [cond_true]
      cases (flows.getD i []).all fun l => decide (l.length ≤ 20) <;> rfl
    · rw [decide_eq_false h]; rfl
  · show L10_0_0 (n + 1) _ _ _ _ = _
    rw [qL10_0_0, decide_eq_false (show ¬ (flows.length : Int) < (flows.length : Int) by omega)]
    rfl
theorem l10_32 (rates : List (List Int)) (hl : rates.length ≤ 20) : L10_32_0 FU rates 0 = some (cond (rates.all fun l => decide (l.length ≤ 20)) (.inr ()) (.inl false)) := by
  rw [← all_range rates [] fun l => decide (l.length ≤ 20)]
  refine all_loop (m := rates.length) (by omega) (fun n j => L10_32_0 n rates j) _ (fun n i hi => ?_) fun n => ?_
  · show L10_32_0 (n + 1) _ _ = _
    rw [qL10_32_0, decide_eq_true (show (i : Int) < (rates.length : Int) by omega), decide_eq_true (show (0 : Int) ≤ (i : Int) by omega), up1 (by omega), dgt]
    simp only [cond_true, Int.toNat_natCast, cond_nb]
  · show L10_32_0 (n + 1) _ _ = _
    rw [qL10_32_0, decide_eq_false (show ¬ (rates.length : Int) < (rates.length : Int) by omega)]
    rfl
theorem v10_eq (caps : List Int) (flows : Fl) (rates : List (List Int)) (prices : List Int) : v10 caps flows rates prices = some (fewS caps flows rates prices) := by
  unfold v10 fewS
  simp only [dgt, cond_nb]
  by_cases h1 : caps.length ≤ 20
  case neg => rw [decide_eq_false h1]; rfl
  by_cases h2 : flows.length ≤ 20
  case neg => rw [decide_eq_true h1, decide_eq_false h2]; rfl
  by_cases h3 : rates.length ≤ 20
  case neg => rw [decide_eq_true h1, decide_eq_true h2, decide_eq_false h3]; rfl
  by_cases h4 : prices.length ≤ 20
  case neg => rw [decide_eq_true h1, decide_eq_true h2, decide_eq_true h3, decide_eq_false h4]; rfl
  rw [decide_eq_true h1, decide_eq_true h2, decide_eq_true h3, decide_eq_true h4, l10_0 rates caps flows h2, l10_32 rates h3]
  simp only [cond_true, Bool.true_and]
  cases fewF flows with
  | false => rfl
  | true => cases rates.all fun l => decide (l.length ≤ 20) <;> rfl
structure Few (caps : List Int) (flows : Fl) (rates : List (List Int)) (prices : List Int) : Prop where
  hc : caps.length ≤ 20
  hf : flows.length ≤ 20
  hr : rates.length ≤ 20
  hp : prices.length ≤ 20
  flow : ∀ i, (flows.getD i []).length ≤ 20
  path : ∀ i k, ((flows.getD i []).getD k []).length ≤ 20
  rate : ∀ i, (rates.getD i []).length ≤ 20
theorem few_iff {caps : List Int} {flows : Fl} {rates : List (List Int)} {prices : List Int} (h : fewS caps flows rates prices = true) : Few caps flows rates prices := by
  unfold fewS fewF at h
  simp only [Bool.and_eq_true, decide_eq_true_eq] at h
  obtain ⟨h1, h2, h3, h4, h5, h6⟩ := h
  have hf : ∀ i, (flows.getD i []).length ≤ 20 ∧ ∀ k, ((flows.getD i []).getD k []).length ≤ 20 := by
    intro i
    by_cases hi : i < flows.length
    · have := List.all_eq_true.1 h5 _ (getD_in hi [])
      by_cases hl : (flows.getD i []).length ≤ 20
      · rw [decide_eq_true hl] at this
        simp only [cond_true] at this
        refine ⟨hl, fun k => ?_⟩
        by_cases hk : k < (flows.getD i []).length
        · simpa using List.all_eq_true.1 this _ (getD_in hk [])
        · rw [List.getD_eq_getElem?_getD (l := flows.getD i []), List.getElem?_eq_none (by omega)]; simp
      · rw [decide_eq_false hl] at this; cases this
    · rw [List.getD_eq_getElem?_getD, List.getElem?_eq_none (by omega)]; simp
  refine ⟨h1, h2, h3, h4, fun i => (hf i).1, fun i => (hf i).2, fun i => ?_⟩
  by_cases hi : i < rates.length
  · simpa using List.all_eq_true.1 h6 _ (getD_in hi [])
  · rw [List.getD_eq_getElem?_getD, List.getElem?_eq_none (by omega)]; simp
def incr (links : Int) : Int → List Int → Bool
  | _, [] => true
  | last, k :: r => cond (decide (last < k ∧ k < links)) (incr links k r) false
def pathS (l : List Int) (links : Int) : Bool := cond (incr links (-1) l) (decide (1 ≤ l.length ∧ l.length ≤ 6)) false
def capsS (caps : List Int) : Bool := caps.all fun n => decide (0 ≤ n ∧ n ≤ 1000)
def flowS (links : Int) (f : List (List Int)) : Bool := cond (decide (1 ≤ f.length ∧ f.length ≤ 4)) (f.all fun l => pathS l links) false
def validS (caps : List Int) (flows : Fl) : Bool :=
  decide (1 ≤ caps.length ∧ caps.length ≤ 8) && (decide (1 ≤ flows.length ∧ flows.length ≤ 8) && (capsS caps && flows.all (flowS caps.length)))
end Go.Proofs.Ytajodcnnadbjkaa
set_option linter.unusedVariables false
namespace Go.TM
open Go Go.AM
theorem at_loop {m : Nat} (hm : m ≤ 9223372036854775807) {σ ρ : Type} (F : Nat → Int → σ → Option ρ) (g : Nat → σ) (r : ρ)
    (hs : ∀ n (i : Nat), i < m → F (n + 1) (i : Int) (g i) = F n ((i + 1 : Nat) : Int) (g (i + 1))) (he : ∀ n, F (n + 1) (m : Int) (g m) = some r) : F FU 0 (g 0) = some r := by
  have key : ∀ (k n i : Nat), i + k = m → k < n → F n (i : Int) (g i) = some r := by
    intro k
    induction k with
    | zero =>
      intro n i h1 h2
      cases n with
      | zero => omega
      | succ n => rw [show i = m by omega]; exact he n
    | succ k ih =>
      intro n i h1 h2
      cases n with
      | zero => omega
      | succ n => rw [hs n i (by omega)]; exact ih n (i + 1) (by omega) (by omega)
  exact key m FU 0 (by omega) (by unfold FU; omega)
theorem idx_of {m : Nat} (hm : m ≤ 9223372036854775807) (F : Nat → Int → Option (Int ⊕ Unit)) (g : Nat → Bool)
    (hs : ∀ n (i : Nat), i < m → F (n + 1) (i : Int) = cond (g i) (some (.inl (i : Int))) (F n ((i + 1 : Nat) : Int))) (he : ∀ n, F (n + 1) (m : Int) = some (.inr ())) :
    ∃ j : Int, cond (isL (F FU 0)) (some (getL (F FU 0))) (cond (ok (getR (F FU 0))) (some (-1 : Int)) none) = some j ∧ decide (j ≥ 0) = (List.range m).any g := by
  rcases find_loop hm F g hs he with ⟨j, h1, h2, h3, _⟩ | ⟨h2, h3⟩
  · refine ⟨(j : Int), by rw [h2]; rfl, ?_⟩
    rw [decide_eq_true (show (j : Int) ≥ 0 by omega), eq_comm, List.any_eq_true]
    exact ⟨j, List.mem_range.2 h1, h3⟩
  · refine ⟨-1, by rw [h2]; rfl, ?_⟩
    rw [decide_eq_false (show ¬ (-1 : Int) ≥ 0 by omega), eq_comm, List.any_eq_false]
    intro x hx
    rw [h3 x (List.mem_range.1 hx)]; simp
def sumN : Nat → (Nat → Int) → Int
  | 0, _ => 0
  | n + 1, f => sumN n f + f n
theorem sumN_le {n : Nat} {f g : Nat → Int} (h : ∀ i, i < n → f i ≤ g i) : sumN n f ≤ sumN n g := by
  induction n with
  | zero => exact Int.le_refl _
  | succ n ih => exact Int.add_le_add (ih fun i hi => h i (by omega)) (h n (by omega))
theorem sumN_congr {n : Nat} {f g : Nat → Int} (h : ∀ i, i < n → f i = g i) : sumN n f = sumN n g := by
  induction n with
  | zero => rfl
  | succ n ih => simp only [sumN]; rw [ih fun i hi => h i (by omega), h n (by omega)]
theorem sumN_const (n : Nat) (c : Int) : sumN n (fun _ => c) = n * c := by
  induction n with
  | zero => simp [sumN]
  | succ n ih => simp only [sumN]; rw [ih]; push_cast; rw [Int.add_mul]; omega
theorem sumN_zero (n : Nat) : sumN n (fun _ => 0) = 0 := by rw [sumN_const]; simp
theorem sumN_nonneg {n : Nat} {f : Nat → Int} (h : ∀ i, i < n → 0 ≤ f i) : 0 ≤ sumN n f := by
  have := sumN_le (n := n) (f := fun _ => 0) (g := f) h
  rw [sumN_zero] at this; exact this
theorem sumN_bd {n m : Nat} {f : Nat → Int} {c : Int} (hn : n ≤ m) (h : ∀ i, i < n → 0 ≤ f i ∧ f i ≤ c) (hc : 0 ≤ c) : 0 ≤ sumN n f ∧ sumN n f ≤ m * c := by
  refine ⟨sumN_nonneg fun i hi => (h i hi).1, ?_⟩
  have := sumN_le (n := n) (f := f) (g := fun _ => c) fun i hi => (h i hi).2
  rw [sumN_const] at this
  exact Int.le_trans this (Int.mul_le_mul_of_nonneg_right (by omega) hc)
theorem sumN_add (n : Nat) (f g : Nat → Int) : sumN n (fun i => f i + g i) = sumN n f + sumN n g := by
  induction n with
  | zero => rfl
  | succ n ih => simp only [sumN]; rw [ih]; omega
theorem sumN_mul (n : Nat) (f : Nat → Int) (c : Int) : sumN n (fun i => c * f i) = c * sumN n f := by
  induction n with
  | zero => simp [sumN]
  | succ n ih => simp only [sumN]; rw [ih, Int.mul_add]
theorem sumN_mul' (n : Nat) (f : Nat → Int) (c : Int) : sumN n (fun i => f i * c) = sumN n f * c := by
  rw [Int.mul_comm, ← sumN_mul]; exact sumN_congr fun i _ => Int.mul_comm _ _
theorem sumN_swap (n m : Nat) (f : Nat → Nat → Int) : sumN n (fun i => sumN m fun j => f i j) = sumN m (fun j => sumN n fun i => f i j) := by
  induction n with
  | zero => exact (sumN_zero m).symm
  | succ n ih => simp only [sumN]; rw [ih, ← sumN_add]
theorem sumN_one (n : Nat) {f : Nat → Int} {i : Nat} (hi : i < n) (h : ∀ j, j < n → 0 ≤ f j) : f i ≤ sumN n f := by
  induction n with
  | zero => omega
  | succ n ih =>
    simp only [sumN]
    by_cases hn : i = n
    · have := sumN_nonneg (n := n) (f := f) fun j hj => h j (by omega)
      rw [hn]; omega
    · have := ih (by omega) fun j hj => h j (by omega)
      have := h n (by omega)
      omega
theorem ceil_lt {p x c : Int} (hp : 0 < p) (hx : 0 ≤ x) (hc : 0 < c) : x < Int.tdiv (c + p - 1) p ↔ p * x < c := by
  rw [Int.tdiv_eq_ediv_of_nonneg (by omega)]
  have h1 := Int.mul_ediv_add_emod (c + p - 1) p
  have h2 := Int.emod_nonneg (c + p - 1) (show p ≠ 0 by omega)
  have h3 := Int.emod_lt_of_pos (c + p - 1) hp
  constructor
  · intro h
    have h4 : p * (x + 1) ≤ p * ((c + p - 1) / p) := Int.mul_le_mul_of_nonneg_left (by omega) (by omega)
    rw [Int.mul_add, Int.mul_one] at h4
    omega
  · intro h
    apply Int.lt_of_not_ge
    intro h4
    have h5 : p * ((c + p - 1) / p) ≤ p * x := Int.mul_le_mul_of_nonneg_left h4 (by omega)
    omega
theorem ceil_le {p c : Int} (hp : 0 < p) (hc : 0 < c) : 0 ≤ Int.tdiv (c + p - 1) p ∧ Int.tdiv (c + p - 1) p ≤ c := by
  refine ⟨?_, ?_⟩
  · rw [Int.tdiv_eq_ediv_of_nonneg (by omega)]; exact Int.ediv_nonneg (by omega) (by omega)
  · apply Int.le_of_not_gt
    intro h
    have := (ceil_lt hp (by omega) hc).1 h
    have h2 : 1 * c ≤ p * c := Int.mul_le_mul_of_nonneg_right (by omega) (by omega)
    omega
end Go.TM
set_option linter.unusedVariables false
namespace Go.Proofs.Ytajodcnnadbjkaa
open Go Go.AM Go.TM Go.Proofs
theorem v31_eq (a b c : Int) : v31 a b c = some (decide (b ≤ a ∧ a ≤ c)) := by
  unfold v31; rw [and_cond]
theorem not_any {α : Type} (l : List α) (d : α) (p : α → Bool) : (!(List.range l.length).any fun i => !p (l.getD i d)) = l.all p := by
  rw [any_range l d fun x => !p x, ← all_range l d p, all_range l d p]
  rw [List.all_eq_not_any_not]
theorem ints_all (l : List Int) (hl : Len l) (p : Int → Bool) (F : Nat → Int → Option (Int ⊕ Unit))
    (hs : ∀ n (i : Nat), i < l.length → F (n + 1) (i : Int) = cond (!p (l.getD i 0)) (some (.inl (i : Int))) (F n ((i + 1 : Nat) : Int))) (he : ∀ n, F (n + 1) (l.length : Int) = some (.inr ())) :
    ∃ j : Int, cond (isL (F FU 0)) (some (getL (F FU 0))) (cond (ok (getR (F FU 0))) (some (-1 : Int)) none) = some j ∧ (!decide (j ≥ 0)) = l.all p := by
  obtain ⟨j, h1, h2⟩ := idx_of (m := l.length) hl F (fun i => !p (l.getD i 0)) hs he
  exact ⟨j, h1, by rw [h2, not_any l 0 p]⟩
theorem v32_eq (l : List Int) (hl : Len l) : v32 l = some (capsS l) := by
  have hl' : l.length ≤ 9223372036854775807 := hl
  obtain ⟨j, h1, h2⟩ := ints_all l hl (fun n => decide (0 ≤ n ∧ n ≤ 1000)) (fun n i => L53_0_0 n l (l.length : Int) i) (fun n i hi => by
    show L53_0_0 (n + 1) _ _ _ = _
    rw [qL53_0_0, decide_eq_true (show (i : Int) < (l.length : Int) by omega), decide_eq_true (show (0 : Int) ≤ (i : Int) by omega), up1 (by omega)]
    unfold v46 v33
    simp only [cond_true, Int.toNat_natCast, v31_eq, ok_some, val_some]) fun n => by
    show L53_0_0 (n + 1) _ _ _ = _
    rw [qL53_0_0, decide_eq_false (show ¬ (l.length : Int) < (l.length : Int) by omega)]
    rfl
  unfold v32 v45 v53 capsS
  rw [h1]
  simp only [ok_some, val_some, cond_true]
  exact congrArg some h2
def upto (m : Int) (l : List Int) : Bool := l.all fun n => decide (0 ≤ n ∧ n ≤ m)
theorem v32_1_eq (l : List Int) (hl : Len l) : v32_1 l = some (upto 1000000000 l) := by
  have hl' : l.length ≤ 9223372036854775807 := hl
  obtain ⟨j, h1, h2⟩ := ints_all l hl (fun n => decide (0 ≤ n ∧ n ≤ 1000000000)) (fun n i => L53_0_1 n l (l.length : Int) i) (fun n i hi => by
    show L53_0_1 (n + 1) _ _ _ = _
    rw [qL53_0_1, decide_eq_true (show (i : Int) < (l.length : Int) by omega), decide_eq_true (show (0 : Int) ≤ (i : Int) by omega), up1 (by omega)]
    unfold v46_1 v41
    simp only [cond_true, Int.toNat_natCast, v31_eq, ok_some, val_some]) fun n => by
    show L53_0_1 (n + 1) _ _ _ = _
    rw [qL53_0_1, decide_eq_false (show ¬ (l.length : Int) < (l.length : Int) by omega)]
    rfl
  unfold v32_1 v45_1 v53_1 upto
  rw [h1]
  simp only [ok_some, val_some, cond_true]
  exact congrArg some h2
theorem v32_2_eq (l : List Int) (hl : Len l) : v32_2 l = some (upto 1000000000000 l) := by
  have hl' : l.length ≤ 9223372036854775807 := hl
  obtain ⟨j, h1, h2⟩ := ints_all l hl (fun n => decide (0 ≤ n ∧ n ≤ 1000000000000)) (fun n i => L53_0_2 n l (l.length : Int) i) (fun n i hi => by
    show L53_0_2 (n + 1) _ _ _ = _
    rw [qL53_0_2, decide_eq_true (show (i : Int) < (l.length : Int) by omega), decide_eq_true (show (0 : Int) ≤ (i : Int) by omega), up1 (by omega)]
    unfold v46_2 v42
    simp only [cond_true, Int.toNat_natCast, v31_eq, ok_some, val_some]) fun n => by
    show L53_0_2 (n + 1) _ _ _ = _
    rw [qL53_0_2, decide_eq_false (show ¬ (l.length : Int) < (l.length : Int) by omega)]
    rfl
  unfold v32_2 v45_2 v53_2 upto
  rw [h1]
  simp only [ok_some, val_some, cond_true]
  exact congrArg some h2
theorem l38 (l : List Int) (links : Int) (hl : Len l) : ∀ (k n i : Nat) (last : Int), i + k = l.length → k < n →
    L38_0_0 n l links last l (l.length : Int) (i : Int) = some (cond (incr links last (l.drop i)) (.inr ()) (.inl false)) := by
  intro k
  induction k with
  | zero =>
    intro n i last h1 h2
    cases n with
    | zero => omega
    | succ n =>
      rw [qL38_0_0, decide_eq_false (show ¬ ((i : Int) < (l.length : Int)) by omega), List.drop_of_length_le (show l.length ≤ i by omega)]
      rfl
  | succ k ih =>
    intro n i last h1 h2
    cases n with
    | zero => omega
    | succ n =>
      have hi : i < l.length := by omega
      have hl' : l.length ≤ 9223372036854775807 := hl
      rw [qL38_0_0, decide_eq_true (show (i : Int) < (l.length : Int) by omega), decide_eq_true (show (0 : Int) ≤ (i : Int) by omega), up1 (by omega)]
      simp only [cond_true, Int.toNat_natCast]
      rw [getD_drop hi 0, incr, ih n (i + 1) _ (by omega) (by omega)]
      by_cases c1 : l.getD i 0 ≤ last
      · rw [decide_eq_true c1, decide_eq_false (show ¬ (last < l.getD i 0 ∧ l.getD i 0 < links) by omega)]; rfl
      rw [decide_eq_false c1]
      by_cases c2 : l.getD i 0 ≥ links
      · rw [decide_eq_true c2, decide_eq_false (show ¬ (last < l.getD i 0 ∧ l.getD i 0 < links) by omega)]; rfl
      rw [decide_eq_false c2, decide_eq_true (show last < l.getD i 0 ∧ l.getD i 0 < links by omega)]
      rfl
theorem v38_eq (l : List Int) (links : Int) (hl : Len l) : v38 l links = some (pathS l links) := by
  unfold v38 pathS
  have h := l38 l links hl l.length FU 0 (-1) (by omega) (by have : l.length ≤ 9223372036854775807 := hl; unfold FU; omega)
  simp only [Int.natCast_zero, List.drop_zero] at h
  rw [h]
  cases incr links (-1) l with
  | false => rfl
  | true =>
    simp only [cond_true, isL_inr, getR_inr, ok_some, val_some, cond_false, v31_eq]
    congr 1
    apply decide_eq_decide.2
    constructor <;> intro h <;> omega
theorem v36_eq (f : List (List Int)) (caps : List Int) (flows : Fl) (hl : f.length ≤ 20) (hp : ∀ k, (f.getD k []).length ≤ 20) : v36 f caps flows = some (f.all fun l => pathS l caps.length) := by
  obtain ⟨j, h1, h2⟩ := idx_of (m := f.length) (by omega) (fun n i => L55_0_0 n f (f.length : Int) i caps flows) (fun i => !pathS (f.getD i []) caps.length) (fun n i hi => by
    have := hp i
    show L55_0_0 (n + 1) _ _ _ _ _ = _
    rw [qL55_0_0, decide_eq_true (show (i : Int) < (f.length : Int) by omega), decide_eq_true (show (0 : Int) ≤ (i : Int) by omega), up1 (by omega)]
    unfold v50 v37
    simp only [cond_true, Int.toNat_natCast]
    rw [v38_eq _ _ (show (f.getD i []).length ≤ 9223372036854775807 by omega)]
    simp only [ok_some, val_some, cond_true]) fun n => by
    show L55_0_0 (n + 1) _ _ _ _ _ = _
    rw [qL55_0_0, decide_eq_false (show ¬ (f.length : Int) < (f.length : Int) by omega)]
    rfl
  have h3 := not_any f [] fun l => pathS l caps.length
  unfold v36 v49 v55
  rw [h1]
  simp only [ok_some, val_some, cond_true]
  exact congrArg some ((congrArg (!·) h2).trans h3)
theorem v34_eq (caps : List Int) (flows : Fl) (hl : flows.length ≤ 20) (hf : ∀ i, (flows.getD i []).length ≤ 20) (hp : ∀ i k, ((flows.getD i []).getD k []).length ≤ 20) : v34 flows caps flows = some (flows.all (flowS caps.length)) := by
  obtain ⟨j, h1, h2⟩ := idx_of (m := flows.length) (by omega) (fun n i => L54_0_0 n flows (flows.length : Int) i caps flows) (fun i => !flowS caps.length (flows.getD i [])) (fun n i hi => by
    show L54_0_0 (n + 1) _ _ _ _ _ = _
    rw [qL54_0_0, decide_eq_true (show (i : Int) < (flows.length : Int) by omega), decide_eq_true (show (0 : Int) ≤ (i : Int) by omega), up1 (by omega)]
    have hv : v35 (flows.getD i []) caps flows = some (flowS caps.length (flows.getD i [])) := by
      unfold v35 flowS
      rw [v31_eq, v36_eq _ _ _ (hf i) (hp i)]
      by_cases c1 : 1 ≤ (flows.getD i []).length ∧ (flows.getD i []).length ≤ 4
      · rw [decide_eq_true c1, decide_eq_true (show (1 : Int) ≤ ((flows.getD i []).length : Int) ∧ ((flows.getD i []).length : Int) ≤ 4 by omega)]; rfl
      · rw [decide_eq_false c1, decide_eq_false (show ¬ ((1 : Int) ≤ ((flows.getD i []).length : Int) ∧ ((flows.getD i []).length : Int) ≤ 4) by omega)]; rfl
    unfold v48
    simp only [cond_true, Int.toNat_natCast, hv, ok_some, val_some]) fun n => by
    show L54_0_0 (n + 1) _ _ _ _ _ = _
    rw [qL54_0_0, decide_eq_false (show ¬ (flows.length : Int) < (flows.length : Int) by omega)]
    rfl
  have h3 := not_any flows [] fun f => flowS caps.length f
  unfold v34 v47 v54
  rw [h1]
  simp only [ok_some, val_some, cond_true]
  exact congrArg some ((congrArg (!·) h2).trans h3)
theorem v13_eq {caps : List Int} {flows : Fl} {rates : List (List Int)} {prices : List Int} (h : Few caps flows rates prices) : v13 caps flows = some (validS caps flows) := by
  unfold v13 validS
  have hc := h.hc
  rw [v31_eq, v31_eq, v32_eq caps (show caps.length ≤ 9223372036854775807 by omega), v34_eq caps flows h.hf h.flow h.path]
  simp only [ok_some, val_some, cond_true, cond_nb]
  by_cases c1 : 1 ≤ caps.length ∧ caps.length ≤ 8
  case neg => rw [decide_eq_false c1, decide_eq_false (show ¬ ((1 : Int) ≤ (caps.length : Int) ∧ (caps.length : Int) ≤ 8) by omega)]; rfl
  rw [decide_eq_true c1, decide_eq_true (show (1 : Int) ≤ (caps.length : Int) ∧ (caps.length : Int) ≤ 8 by omega)]
  by_cases c2 : 1 ≤ flows.length ∧ flows.length ≤ 8
  case neg => rw [decide_eq_false c2, decide_eq_false (show ¬ ((1 : Int) ≤ (flows.length : Int) ∧ (flows.length : Int) ≤ 8) by omega)]; rfl
  rw [decide_eq_true c2, decide_eq_true (show (1 : Int) ≤ (flows.length : Int) ∧ (flows.length : Int) ≤ 8 by omega)]
  simp only [cond_true, Bool.true_and]
  cases capsS caps <;> rfl
def ratesS (flows : Fl) (rates : List (List Int)) : Bool := decide (rates.length = flows.length) && (List.range rates.length).all fun i => cond (decide ((rates.getD i []).length = (flows.getD i []).length)) (upto 1000000000 (rates.getD i [])) false
def pricesS (caps prices : List Int) : Bool := decide (prices.length = caps.length) && upto 1000000000000 prices
theorem bne_len {α β : Type} (a : List α) (b : List β) : ((a.length : Int) != (b.length : Int)) = !decide (a.length = b.length) := by
  rw [bne_dec]
  congr 1
  apply decide_eq_decide.2
  omega
theorem v26_eq {caps : List Int} {flows : Fl} {rates : List (List Int)} {prices : List Int} (h : Few caps flows rates prices) : v26 caps flows rates prices = some (ratesS flows rates && pricesS caps prices) := by
  have hp := h.hp
  have hr := h.hr
  unfold v26 ratesS pricesS
  rw [bne_len, bne_len, v32_2_eq prices (show prices.length ≤ 9223372036854775807 by omega)]
  simp only [cond_nb, ok_some, val_some, cond_true]
  by_cases c1 : rates.length = flows.length
  case neg => rw [decide_eq_false c1]; rfl
  rw [decide_eq_true c1]
  have hL : L26_0_0 FU prices rates (rates.length : Int) 0 caps flows = some (cond ((List.range rates.length).all fun i => cond (decide ((rates.getD i []).length = (flows.getD i []).length)) (upto 1000000000 (rates.getD i [])) false) (.inr ()) (.inl false)) := by
    refine all_loop (m := rates.length) (by omega) (fun n j => L26_0_0 n prices rates (rates.length : Int) j caps flows) _ (fun n i hi => ?_) fun n => ?_
    · show L26_0_0 (n + 1) _ _ _ _ _ _ = _
      have := h.rate i
      rw [qL26_0_0, decide_eq_true (show (i : Int) < (rates.length : Int) by omega), decide_eq_true (show (0 : Int) ≤ (i : Int) by omega), decide_eq_true (show (i : Int) < (flows.length : Int) by omega), up1 (by omega)]
      simp only [cond_true, Int.toNat_natCast]
      rw [bne_len, v32_1_eq _ (show (rates.getD i []).length ≤ 9223372036854775807 by omega)]
      simp only [cond_nb, ok_some, val_some, cond_true]
      cases decide ((rates.getD i []).length = (flows.getD i []).length) <;> rfl
    · show L26_0_0 (n + 1) _ _ _ _ _ _ = _
      rw [qL26_0_0, decide_eq_false (show ¬ (rates.length : Int) < (rates.length : Int) by omega)]
      rfl
  rw [hL]
  cases decide (prices.length = caps.length) with
  | false => simp
  | true =>
    simp only [cond_true, Bool.true_and]
    cases (List.range rates.length).all fun i => cond (decide ((rates.getD i []).length = (flows.getD i []).length)) (upto 1000000000 (rates.getD i [])) false <;> rfl
def tab (c : Nat) (f : Nat → Int) : List Int := (List.range c).map f
@[simp] theorem tab_len (c : Nat) (f : Nat → Int) : (tab c f).length = c := by simp [tab]
theorem tab_get {c k : Nat} (f : Nat → Int) (h : k < c) : (tab c f).getD k 0 = f k := by
  simp [tab, List.getD, List.getElem?_map, List.getElem?_range h]
theorem tab_congr {c : Nat} {f g : Nat → Int} (h : ∀ k, k < c → f k = g k) : tab c f = tab c g := by
  unfold tab
  exact List.map_congr_left fun k hk => h k (List.mem_range.1 hk)
theorem tab_set {c p : Nat} (f : Nat → Int) (v : Int) : (tab c f).set p v = tab c fun k => if k = p then v else f k := by
  apply List.ext_getElem?
  intro k
  rw [List.getElem?_set]
  by_cases hk : k < c
  · simp only [tab, List.length_map, List.length_range, List.getElem?_map, List.getElem?_range hk, Option.map_some]
    by_cases h : p = k
    · subst h; simp [hk]
    · rw [if_neg h, if_neg (show ¬ k = p from fun e => h e.symm)]
  · simp [tab, List.getElem?_eq_none (l := List.range c) (i := k) (by simp; omega)]
    omega
theorem tab_rep (c : Nat) : List.replicate c (0 : Int) = tab c fun _ => 0 := by
  apply List.ext_getElem?
  intro k
  by_cases hk : k < c <;> simp [tab, hk, List.getElem?_replicate]
abbrev pth (flows : Fl) (i k : Nat) : List Int := (flows.getD i []).getD k []
abbrev rt (rates : List (List Int)) (i k : Nat) : Int := (rates.getD i []).getD k 0
def pk (l : List Int) (r : Int) (k : Nat) : Int := sumN l.length fun t => cond (l.getD t 0 == (k : Int)) r 0
def loadS (flows : Fl) (rates : List (List Int)) (k : Nat) : Int := sumN flows.length fun i => sumN (flows.getD i []).length fun t => pk (pth flows i t) (rt rates i t) k
def totS (r : List Int) : Int := sumN r.length fun t => r.getD t 0
def priceS (l prices : List Int) : Int := sumN l.length fun t => prices.getD (Int.toNat (l.getD t 0)) 0
def costS (caps prices : List Int) : Int := sumN prices.length fun k => prices.getD k 0 * caps.getD k 0
def carriesS (caps : List Int) (flows : Fl) (rates : List (List Int)) : Bool := (List.range caps.length).all fun k => decide (loadS flows rates k ≤ 1000000 * caps.getD k 0)
def paysS (flows : Fl) (rates : List (List Int)) (prices : List Int) : Bool := (List.range flows.length).all fun i => (List.range (flows.getD i []).length).all fun t => decide (1000000000000 ≤ priceS (pth flows i t) prices * totS (rates.getD i []))
def soundS (caps : List Int) (flows : Fl) (rates : List (List Int)) (prices : List Int) : Bool := carriesS caps flows rates && paysS flows rates prices
theorem incr_spec {links : Int} : ∀ {l : List Int} {last : Int}, incr links last l = true → (∀ j, j < l.length → last < l.getD j 0 ∧ l.getD j 0 < links) ∧ ∀ a b, a < b → b < l.length → l.getD a 0 < l.getD b 0
  | [], last, _ => ⟨fun j hj => absurd hj (Nat.not_lt_zero j), fun a b _ hb => absurd hb (Nat.not_lt_zero b)⟩
  | x :: r, last, h => by
    unfold incr at h
    by_cases c : last < x ∧ x < links
    · rw [decide_eq_true c] at h
      obtain ⟨h1, h2⟩ := incr_spec h
      refine ⟨fun j hj => ?_, fun a b hab hb => ?_⟩
      · cases j with
        | zero => exact c
        | succ j =>
          have := h1 j (by simpa using hj)
          have e : (x :: r).getD (j + 1) 0 = r.getD j 0 := by simp
          rw [e]; omega
      · cases b with
        | zero => omega
        | succ b =>
          have e : (x :: r).getD (b + 1) 0 = r.getD b 0 := by simp
          have hb' : b < r.length := by simpa using hb
          rw [e]
          cases a with
          | zero => exact (h1 b hb').1
          | succ a =>
            have e : (x :: r).getD (a + 1) 0 = r.getD a 0 := by simp
            rw [e]
            exact h2 a b (by omega) hb'
    · rw [decide_eq_false c] at h; cases h
structure Ok (caps : List Int) (flows : Fl) (rates : List (List Int)) (prices : List Int) : Prop where
  few : Few caps flows rates prices
  c1 : 1 ≤ caps.length ∧ caps.length ≤ 8
  f1 : 1 ≤ flows.length ∧ flows.length ≤ 8
  cap : ∀ k, 0 ≤ caps.getD k 0 ∧ caps.getD k 0 ≤ 1000
  sub : ∀ i, i < flows.length → 1 ≤ (flows.getD i []).length ∧ (flows.getD i []).length ≤ 4
  hop : ∀ i t, i < flows.length → t < (flows.getD i []).length → 1 ≤ (pth flows i t).length ∧ (pth flows i t).length ≤ 6
  link : ∀ i t j, i < flows.length → t < (flows.getD i []).length → j < (pth flows i t).length → 0 ≤ (pth flows i t).getD j 0 ∧ (pth flows i t).getD j 0 < (caps.length : Int)
  inc : ∀ i t a b, i < flows.length → t < (flows.getD i []).length → a < b → b < (pth flows i t).length → (pth flows i t).getD a 0 < (pth flows i t).getD b 0
  rl : rates.length = flows.length
  rli : ∀ i, i < flows.length → (rates.getD i []).length = (flows.getD i []).length
  rate : ∀ i t, 0 ≤ rt rates i t ∧ rt rates i t ≤ 1000000000
  pl : prices.length = caps.length
  price : ∀ k, 0 ≤ prices.getD k 0 ∧ prices.getD k 0 ≤ 1000000000000
theorem upto_get {m : Int} (hm : 0 ≤ m) {l : List Int} (h : upto m l = true) (k : Nat) : 0 ≤ l.getD k 0 ∧ l.getD k 0 ≤ m := by
  by_cases hk : k < l.length
  · have := List.all_eq_true.1 h _ (getD_in hk 0)
    simpa using this
  · rw [List.getD_eq_getElem?_getD, List.getElem?_eq_none (by omega)]
    exact ⟨Int.le_refl _, hm⟩
theorem ok_of {caps : List Int} {flows : Fl} {rates : List (List Int)} {prices : List Int} (hf : Few caps flows rates prices) (h1 : validS caps flows = true) (h2 : ratesS flows rates = true) (h3 : pricesS caps prices = true) : Ok caps flows rates prices := by
  unfold validS at h1
  unfold ratesS at h2
  unfold pricesS at h3
  simp only [Bool.and_eq_true, decide_eq_true_eq] at h1 h2 h3
  obtain ⟨hc, hfl, hcs, hfs⟩ := h1
  obtain ⟨hr1, hr2⟩ := h2
  obtain ⟨hp1, hp2⟩ := h3
  have hflow : ∀ i, i < flows.length → (1 ≤ (flows.getD i []).length ∧ (flows.getD i []).length ≤ 4) ∧ ∀ t, t < (flows.getD i []).length → pathS (pth flows i t) caps.length = true := by
    intro i hi
    have := List.all_eq_true.1 hfs _ (getD_in hi [])
    unfold flowS at this
    by_cases c : 1 ≤ (flows.getD i []).length ∧ (flows.getD i []).length ≤ 4
    · rw [decide_eq_true c] at this
      exact ⟨c, fun t ht => List.all_eq_true.1 this _ (getD_in ht [])⟩
    · rw [decide_eq_false c] at this; cases this
  have hpath : ∀ i t, i < flows.length → t < (flows.getD i []).length → incr caps.length (-1) (pth flows i t) = true ∧ 1 ≤ (pth flows i t).length ∧ (pth flows i t).length ≤ 6 := by
    intro i t hi ht
    have := (hflow i hi).2 t ht
    unfold pathS at this
    cases hx : incr caps.length (-1) (pth flows i t) with
    | false => rw [hx] at this; cases this
    | true => rw [hx] at this; exact ⟨rfl, by simpa using this⟩
  have hrt : ∀ i, i < flows.length → (rates.getD i []).length = (flows.getD i []).length ∧ upto 1000000000 (rates.getD i []) = true := by
    intro i hi
    have := List.all_eq_true.1 hr2 i (List.mem_range.2 (by omega))
    by_cases c : (rates.getD i []).length = (flows.getD i []).length
    · rw [decide_eq_true c] at this; exact ⟨c, this⟩
    · rw [decide_eq_false c] at this; cases this
  refine ⟨hf, hc, hfl, fun k => upto_get (by omega) hcs k, fun i hi => (hflow i hi).1, fun i t hi ht => (hpath i t hi ht).2, fun i t j hi ht hj => ?_, fun i t a b hi ht hab hb => (incr_spec (hpath i t hi ht).1).2 a b hab hb, hr1, fun i hi => (hrt i hi).1, fun i t => ?_, hp1, fun k => upto_get (by omega) hp2 k⟩
  · have := (incr_spec (hpath i t hi ht).1).1 j hj
    omega
  · by_cases hi : i < flows.length
    · exact upto_get (by omega) (hrt i hi).2 t
    · have e : rates.getD i [] = [] := by rw [List.getD_eq_getElem?_getD, List.getElem?_eq_none (by omega)]; rfl
      show 0 ≤ (rates.getD i []).getD t 0 ∧ (rates.getD i []).getD t 0 ≤ _
      rw [e]; simp
section
variable {caps : List Int} {flows : Fl} {rates : List (List Int)} {prices : List Int} (h : Ok caps flows rates prices)
include h
theorem pk_bd {l : List Int} {r : Int} (hl : l.length ≤ 20) (hr : 0 ≤ r ∧ r ≤ 1000000000) (k : Nat) : 0 ≤ pk l r k ∧ pk l r k ≤ 20 * 1000000000 := by
  unfold pk
  exact sumN_bd hl (fun t _ => by cases (l.getD t 0 == (k : Int)) <;> simp <;> omega) (by omega)
theorem sub_bd {i j : Nat} (hj : j ≤ 20) (k : Nat) : 0 ≤ sumN j (fun t => pk (pth flows i t) (rt rates i t) k) ∧ sumN j (fun t => pk (pth flows i t) (rt rates i t) k) ≤ 20 * (20 * 1000000000) :=
  sumN_bd hj (fun t _ => pk_bd h (h.few.path i t) (h.rate i t) k) (by omega)
theorem load_bd {j : Nat} (hj : j ≤ 20) (k : Nat) : 0 ≤ sumN j (fun i => sumN (flows.getD i []).length fun t => pk (pth flows i t) (rt rates i t) k) ∧ sumN j (fun i => sumN (flows.getD i []).length fun t => pk (pth flows i t) (rt rates i t) k) ≤ 20 * (20 * (20 * 1000000000)) :=
  sumN_bd hj (fun i _ => sub_bd h (h.few.flow i) k) (by omega)
theorem tot_bd {i j : Nat} (hj : j ≤ 20) : 0 ≤ sumN j (fun t => rt rates i t) ∧ sumN j (fun t => rt rates i t) ≤ 20 * 1000000000 :=
  sumN_bd hj (fun t _ => h.rate i t) (by omega)
omit h in
theorem pk_succ (l : List Int) (r : Int) (k j : Nat) : sumN (j + 1) (fun t => cond (l.getD t 0 == (k : Int)) r 0) = sumN j (fun t => cond (l.getD t 0 == (k : Int)) r 0) + cond (l.getD j 0 == (k : Int)) r 0 := rfl
theorem l27_16 {i t : Nat} (hi : i < flows.length) (ht : t < (flows.getD i []).length) {r : Int} (hr : 0 ≤ r ∧ r ≤ 1000000000) (f : Nat → Int) (hf : ∀ k, 0 ≤ f k ∧ f k ≤ 100000000000000) (y : List Int) :
    L27_16_0 FU (pth flows i t) ((pth flows i t).length : Int) 0 (pth flows i t) r (tab caps.length f) y = some (tab caps.length fun k => f k + pk (pth flows i t) r k) := by
  have hl := (h.hop i t hi ht).2
  have := at_loop (m := (pth flows i t).length) (by omega) (fun n j (s : List Int) => L27_16_0 n (pth flows i t) ((pth flows i t).length : Int) j (pth flows i t) r s y)
    (fun j => tab caps.length fun k => f k + sumN j fun t' => cond ((pth flows i t).getD t' 0 == (k : Int)) r 0) (tab caps.length fun k => f k + pk (pth flows i t) r k) (fun n j hj => ?_) fun n => ?_
  · simp only [sumN, Int.add_zero] at this
    exact this
  · show L27_16_0 (n + 1) _ _ _ _ _ _ _ = L27_16_0 n _ _ _ _ _ _ _
    have hk := h.link i t j hi ht hj
    obtain ⟨p, hp⟩ : ∃ p : Nat, (pth flows i t).getD j 0 = (p : Int) := ⟨Int.toNat ((pth flows i t).getD j 0), by omega⟩
    have hpc : p < caps.length := by omega
    rw [qL27_16_0, decide_eq_true (show (j : Int) < ((pth flows i t).length : Int) by omega), decide_eq_true (show (0 : Int) ≤ (j : Int) by omega), up1 (by omega)]
    simp only [cond_true, Int.toNat_natCast, hp, tab_len]
    rw [decide_eq_true (show (0 : Int) ≤ (p : Int) by omega), decide_eq_true (show (p : Int) < (caps.length : Int) by omega), decide_eq_true hpc, tab_get _ hpc, tab_set]
    simp only [cond_true]
    congr 1
    apply tab_congr
    intro k hkc
    have hb := sumN_bd (n := j) (m := 20) (f := fun t' => cond ((pth flows i t).getD t' 0 == (p : Int)) r 0) (c := 1000000000) (by omega) (fun t' _ => by cases ((pth flows i t).getD t' 0 == (p : Int)) <;> simp <;> omega) (by omega)
    have hfp := hf p
    rw [pk_succ, hp]
    by_cases hkp : k = p
    · subst hkp
      rw [if_pos rfl, wrap_id (by omega) (by omega)]
      simp; omega
    · rw [if_neg hkp, show ((p : Int) == (k : Int)) = false from beq_false_of_ne (by omega)]
      simp
  · show L27_16_0 (n + 1) _ _ _ _ _ _ _ = _
    rw [qL27_16_0, decide_eq_false (show ¬ ((pth flows i t).length : Int) < ((pth flows i t).length : Int) by omega)]
    rfl
def Ld (caps : List Int) (flows : Fl) (rates : List (List Int)) (i j : Nat) : List Int := tab caps.length fun k => sumN i (fun q => sumN (flows.getD q []).length fun t => pk (pth flows q t) (rt rates q t) k) + sumN j fun t => pk (pth flows i t) (rt rates i t) k
def Sm (flows : Fl) (rates : List (List Int)) (i j : Nat) : List Int := tab flows.length fun q => if q < i then sumN (flows.getD q []).length (fun t => rt rates q t) else if q = i then sumN j (fun t => rt rates i t) else 0
theorem vR_eq {i t : Nat} (hi : i < flows.length) (ht : t < (flows.getD i []).length) : vR (i : Int) (pth flows i t) (rt rates i t) (Ld caps flows rates i t) (Sm flows rates i t) = some (Ld caps flows rates i (t + 1), Sm flows rates i (t + 1)) := by
  unfold vR
  have h4 := (h.sub i hi).2
  have hr := h.rate i t
  have hsl : (Sm flows rates i t).length = flows.length := by simp [Sm]
  rw [decide_eq_true (show (0 : Int) ≤ (i : Int) by omega), hsl, decide_eq_true (show (i : Int) < (flows.length : Int) by omega)]
  simp only [cond_true, Int.toNat_natCast]
  rw [decide_eq_true hi]
  have e1 : List.set (Sm flows rates i t) i (IntKind.wrap IntKind.i64 ((Sm flows rates i t).getD i 0 + rt rates i t)) = Sm flows rates i (t + 1) := by
    unfold Sm
    rw [tab_get _ hi, tab_set]
    apply tab_congr
    intro q hq
    have hb := tot_bd h (i := i) (j := t) (by omega)
    by_cases hqi : q = i
    · subst hqi
      rw [if_pos rfl, if_neg (Nat.lt_irrefl q), if_pos rfl, if_neg (Nat.lt_irrefl q), if_pos rfl, wrap_id (by omega) (by omega)]
      rfl
    · rw [if_neg hqi, if_neg hqi, if_neg hqi]
  have e2 := l27_16 h hi ht hr (fun k => sumN i (fun q => sumN (flows.getD q []).length fun t => pk (pth flows q t) (rt rates q t) k) + sumN t fun t => pk (pth flows i t) (rt rates i t) k)
    (fun k => by
      have := load_bd h (j := i) (by have := h.few.hf; omega) k
      have := sub_bd h (i := i) (j := t) (by omega) k
      omega) (Sm flows rates i (t + 1))
  simp only [cond_true]
  rw [e1]
  unfold Ld
  rw [e2]
  simp only [ok_some, val_some, cond_true]
  congr 1
  rw [Prod.mk.injEq]
  refine ⟨tab_congr fun k hk => ?_, rfl⟩
  simp only [sumN]
  omega
theorem l52_16 {i : Nat} (hi : i < flows.length) : L52_16_0 FU (i : Int) flows (flows.length : Int) (i : Int) (flows.getD i []) ((flows.getD i []).length : Int) 0 (Ld caps flows rates i 0) (Sm flows rates i 0) caps flows rates = some (Ld caps flows rates i (flows.getD i []).length, Sm flows rates i (flows.getD i []).length) := by
  have h4 := (h.sub i hi).2
  have hrl := h.rli i hi
  have hr := h.rl
  refine at_loop (m := (flows.getD i []).length) (by omega) (fun n j (s : List Int × List Int) => L52_16_0 n (i : Int) flows (flows.length : Int) (i : Int) (flows.getD i []) ((flows.getD i []).length : Int) j s.1 s.2 caps flows rates)
    (fun j => (Ld caps flows rates i j, Sm flows rates i j)) (Ld caps flows rates i (flows.getD i []).length, Sm flows rates i (flows.getD i []).length) (fun n j hj => ?_) fun n => ?_
  · show L52_16_0 (n + 1) _ _ _ _ _ _ _ _ _ _ _ _ = L52_16_0 n _ _ _ _ _ _ _ _ _ _ _ _
    have hv := vR_eq h hi hj
    rw [qL52_16_0, decide_eq_true (show (j : Int) < ((flows.getD i []).length : Int) by omega), decide_eq_true (show (0 : Int) ≤ (j : Int) by omega), decide_eq_true (show (0 : Int) ≤ (i : Int) by omega), decide_eq_true (show (i : Int) < (rates.length : Int) by omega), up1 (by omega)]
    simp only [cond_true, Int.toNat_natCast]
    rw [decide_eq_true (show (j : Int) < ((rates.getD i []).length : Int) by omega), hv]
    simp only [cond_true, ok_some, val_some]
  · show L52_16_0 (n + 1) _ _ _ _ _ _ _ _ _ _ _ _ = _
    rw [qL52_16_0, decide_eq_false (show ¬ ((flows.getD i []).length : Int) < ((flows.getD i []).length : Int) by omega)]
    rfl
omit h in
theorem Ld_next (i : Nat) : Ld caps flows rates i (flows.getD i []).length = Ld caps flows rates (i + 1) 0 := by
  unfold Ld
  apply tab_congr
  intro k hk
  simp only [sumN, Int.add_zero]
omit h in
theorem Sm_next (i : Nat) : Sm flows rates i (flows.getD i []).length = Sm flows rates (i + 1) 0 := by
  unfold Sm
  apply tab_congr
  intro q hq
  by_cases h1 : q < i
  · rw [if_pos h1, if_pos (by omega)]
  rw [if_neg h1]
  by_cases h2 : q = i
  · subst h2; rw [if_pos rfl, if_pos (by omega)]
  rw [if_neg h2, if_neg (by omega)]
  split <;> rfl
theorem v52_eq : v52 (List.replicate caps.length 0) (List.replicate flows.length 0) caps flows rates = some (tab caps.length (loadS flows rates), tab flows.length fun i => totS (rates.getD i [])) := by
  have hf := h.few.hf
  have h0 : L52_0_0 FU flows (flows.length : Int) 0 (Ld caps flows rates 0 0) (Sm flows rates 0 0) caps flows rates = some (Ld caps flows rates flows.length 0, Sm flows rates flows.length 0) := by
    refine at_loop (m := flows.length) (by omega) (fun n j (s : List Int × List Int) => L52_0_0 n flows (flows.length : Int) j s.1 s.2 caps flows rates)
      (fun j => (Ld caps flows rates j 0, Sm flows rates j 0)) (Ld caps flows rates flows.length 0, Sm flows rates flows.length 0) (fun n i hi => ?_) fun n => ?_
    · show L52_0_0 (n + 1) _ _ _ _ _ _ _ _ = L52_0_0 n _ _ _ _ _ _ _ _
      rw [qL52_0_0, decide_eq_true (show (i : Int) < (flows.length : Int) by omega), decide_eq_true (show (0 : Int) ≤ (i : Int) by omega), up1 (by omega)]
      simp only [cond_true, Int.toNat_natCast]
      rw [l52_16 h hi]
      simp only [cond_true, ok_some, val_some]
      rw [Ld_next, Sm_next]
    · show L52_0_0 (n + 1) _ _ _ _ _ _ _ _ = _
      rw [qL52_0_0, decide_eq_false (show ¬ (flows.length : Int) < (flows.length : Int) by omega)]
      rfl
  have e1 : List.replicate caps.length (0 : Int) = Ld caps flows rates 0 0 := tab_rep _
  have e2 : List.replicate flows.length (0 : Int) = Sm flows rates 0 0 := by
    rw [tab_rep]; unfold Sm
    apply tab_congr
    intro q _
    rw [if_neg (by omega)]
    split <;> rfl
  have e3 : Ld caps flows rates flows.length 0 = tab caps.length (loadS flows rates) := tab_congr fun k _ => Int.add_zero _
  have e4 : Sm flows rates flows.length 0 = tab flows.length fun i => totS (rates.getD i []) := by
    apply tab_congr
    intro q hq
    rw [if_pos hq]
    unfold totS
    rw [h.rli q hq]
  unfold v52
  rw [e1, e2, h0]
  simp only [ok_some, val_some, cond_true, e3, e4]
theorem price_bd {i t j : Nat} (hj : j ≤ 20) : 0 ≤ sumN j (fun x => prices.getD (Int.toNat ((pth flows i t).getD x 0)) 0) ∧ sumN j (fun x => prices.getD (Int.toNat ((pth flows i t).getD x 0)) 0) ≤ 20 * 1000000000000 :=
  sumN_bd hj (fun x _ => h.price _) (by omega)
theorem l27_64 {i t : Nat} (hi : i < flows.length) (ht : t < (flows.getD i []).length) (b : Bool) (y : List Int) : L27_64_0 FU (i : Int) 0 (pth flows i t) ((pth flows i t).length : Int) 0 prices b y = some (priceS (pth flows i t) prices) := by
  have hl := (h.hop i t hi ht).2
  refine at_loop (m := (pth flows i t).length) (by omega) (fun n j (s : Int) => L27_64_0 n (i : Int) s (pth flows i t) ((pth flows i t).length : Int) j prices b y)
    (fun j => sumN j fun x => prices.getD (Int.toNat ((pth flows i t).getD x 0)) 0) (priceS (pth flows i t) prices) (fun n j hj => ?_) fun n => ?_
  · show L27_64_0 (n + 1) _ _ _ _ _ _ _ _ = L27_64_0 n _ _ _ _ _ _ _ _
    have hk := h.link i t j hi ht hj
    have hpl := h.pl
    have hb := price_bd h (i := i) (t := t) (j := j + 1) (by omega)
    have hs : sumN (j + 1) (fun x => prices.getD (Int.toNat ((pth flows i t).getD x 0)) 0) = sumN j (fun x => prices.getD (Int.toNat ((pth flows i t).getD x 0)) 0) + prices.getD (Int.toNat ((pth flows i t).getD j 0)) 0 := rfl
    rw [qL27_64_0, decide_eq_true (show (j : Int) < ((pth flows i t).length : Int) by omega), decide_eq_true (show (0 : Int) ≤ (j : Int) by omega), up1 (by omega)]
    simp only [cond_true, Int.toNat_natCast]
    rw [decide_eq_true hk.1, decide_eq_true (show (pth flows i t).getD j 0 < (prices.length : Int) by omega), ← hs, wrap_id (by omega) (by omega)]
    rfl
  · show L27_64_0 (n + 1) _ _ _ _ _ _ _ _ = _
    rw [qL27_64_0, decide_eq_false (show ¬ ((pth flows i t).length : Int) < ((pth flows i t).length : Int) by omega)]
    rfl
theorem priceS_bd {i t : Nat} : 0 ≤ priceS (pth flows i t) prices ∧ priceS (pth flows i t) prices ≤ 20 * 1000000000000 := price_bd h (h.few.path i t)
theorem totS_bd (i : Nat) : 0 ≤ totS (rates.getD i []) ∧ totS (rates.getD i []) ≤ 20 * 1000000000 := tot_bd h (i := i) (h.few.rate i)
theorem vR_1_eq {i t : Nat} (hi : i < flows.length) (ht : t < (flows.getD i []).length) (x : Int) (b : Bool) : vR_1 (i : Int) (pth flows i t) x prices b (tab flows.length fun i => totS (rates.getD i [])) =
    some (cond (decide (1000000000000 ≤ priceS (pth flows i t) prices * totS (rates.getD i []))) (.inr ()) (.inl ())) := by
  unfold vR_1
  rw [l27_64 h hi ht, ok_some, val_some]
  have hp := priceS_bd h (i := i) (t := t)
  have hx := totS_bd h i
  simp only [ok_some, val_some, cond_true, tab_len, Int.toNat_natCast]
  rw [decide_eq_true (show (0 : Int) ≤ (i : Int) by omega), decide_eq_true (show (i : Int) < (flows.length : Int) by omega), decide_eq_true hi, beq_dec]
  simp only [cond_true, tab_get (fun i => totS (rates.getD i [])) hi]
  generalize hP : priceS (pth flows i t) prices = p at *
  generalize hX : totS (rates.getD i []) = y at *
  by_cases c : p = 0
  · rw [decide_eq_true c, c, decide_eq_false (show ¬ (1000000000000 : Int) ≤ 0 * y by omega)]; rfl
  rw [decide_eq_false c, @decide_eq_true _ _ (show p ≠ 0 from c)]
  have hc := ceil_lt (p := p) (x := y) (c := 1000000000000) (by omega) (by omega) (by omega)
  have hc2 := ceil_le (p := p) (c := 1000000000000) (by omega) (by omega)
  have w1 : IntKind.wrap IntKind.i64 (1000000000000 + p) = 1000000000000 + p := wrap_id (by omega) (by omega)
  have w2 : IntKind.wrap IntKind.i64 (1000000000000 + p - 1) = 1000000000000 + p - 1 := wrap_id (by omega) (by omega)
  have w3 : IntKind.wrap IntKind.i64 (Int.tdiv (1000000000000 + p - 1) p) = Int.tdiv (1000000000000 + p - 1) p := wrap_id (by omega) (by omega)
  simp only [cond_true, cond_false, w1, w2, w3]
  by_cases c2 : p * y < 1000000000000
  · rw [decide_eq_true (hc.2 c2), decide_eq_false (show ¬ 1000000000000 ≤ p * y by omega)]; rfl
  · rw [decide_eq_false (show ¬ _ from fun e => c2 (hc.1 e)), decide_eq_true (show 1000000000000 ≤ p * y by omega)]; rfl
theorem v52_1_eq (b : Bool) : v52_1 prices b (tab flows.length fun i => totS (rates.getD i [])) caps flows rates = some (cond (paysS flows rates prices) (.inr ()) (.inl false)) := by
  have hf := h.few.hf
  have hr := h.rl
  have h0 : L52_0_1 FU flows (flows.length : Int) 0 prices b (tab flows.length fun i => totS (rates.getD i [])) caps flows rates = some (cond (paysS flows rates prices) (.inr ()) (.inl false)) := by
    unfold paysS
    refine all_loop (m := flows.length) (by omega) (fun n j => L52_0_1 n flows (flows.length : Int) j prices b (tab flows.length fun i => totS (rates.getD i [])) caps flows rates) _ (fun n i hi => ?_) fun n => ?_
    · show L52_0_1 (n + 1) _ _ _ _ _ _ _ _ _ = _
      have h4 := (h.sub i hi).2
      have hrl := h.rli i hi
      have h1 : L52_16_1 FU (i : Int) flows (flows.length : Int) (i : Int) (flows.getD i []) ((flows.getD i []).length : Int) 0 prices b (tab flows.length fun i => totS (rates.getD i [])) caps flows rates = some (cond ((List.range (flows.getD i []).length).all fun t => decide (1000000000000 ≤ priceS (pth flows i t) prices * totS (rates.getD i []))) (.inr ()) (.inl false)) := by
        refine all_loop (m := (flows.getD i []).length) (by omega) (fun n j => L52_16_1 n (i : Int) flows (flows.length : Int) (i : Int) (flows.getD i []) ((flows.getD i []).length : Int) j prices b (tab flows.length fun i => totS (rates.getD i [])) caps flows rates) _ (fun n j hj => ?_) fun n => ?_
        · show L52_16_1 (n + 1) _ _ _ _ _ _ _ _ _ _ _ _ _ = _
          have hv := vR_1_eq h hi hj (rt rates i j) b
          rw [qL52_16_1, decide_eq_true (show (j : Int) < ((flows.getD i []).length : Int) by omega), decide_eq_true (show (0 : Int) ≤ (j : Int) by omega), decide_eq_true (show (0 : Int) ≤ (i : Int) by omega), decide_eq_true (show (i : Int) < (rates.length : Int) by omega), up1 (by omega)]
          simp only [cond_true, Int.toNat_natCast]
          rw [decide_eq_true (show (j : Int) < ((rates.getD i []).length : Int) by omega), hv]
          cases decide (1000000000000 ≤ priceS (pth flows i j) prices * totS (rates.getD i [])) <;> rfl
        · show L52_16_1 (n + 1) _ _ _ _ _ _ _ _ _ _ _ _ _ = _
          rw [qL52_16_1, decide_eq_false (show ¬ ((flows.getD i []).length : Int) < ((flows.getD i []).length : Int) by omega)]
          rfl
      rw [qL52_0_1, decide_eq_true (show (i : Int) < (flows.length : Int) by omega), decide_eq_true (show (0 : Int) ≤ (i : Int) by omega), up1 (by omega)]
      simp only [cond_true, Int.toNat_natCast]
      rw [h1]
      cases (List.range (flows.getD i []).length).all fun t => decide (1000000000000 ≤ priceS (pth flows i t) prices * totS (rates.getD i [])) <;> rfl
    · show L52_0_1 (n + 1) _ _ _ _ _ _ _ _ _ = _
      rw [qL52_0_1, decide_eq_false (show ¬ (flows.length : Int) < (flows.length : Int) by omega)]
      rfl
  unfold v52_1
  rw [h0]
  cases paysS flows rates prices <;> rfl
theorem v27_eq : v27 caps flows rates prices = some (soundS caps flows rates prices) := by
  have hc := h.few.hc
  have hf := h.few.hf
  have hn : ∀ n : Nat, Int.toNat (n : Int) = n := fun n => Int.toNat_natCast n
  unfold v27 soundS
  rw [hn, hn, v52_eq h]
  rw [decide_eq_true (show (caps.length : Int) ≤ (caps.length : Int) by omega), decide_eq_true (show (caps.length : Int) ≤ ((2147483648 : Nat) : Int) by omega), decide_eq_true (show (flows.length : Int) ≤ (flows.length : Int) by omega), decide_eq_true (show (flows.length : Int) ≤ ((2147483648 : Nat) : Int) by omega)]
  simp only [ok_some, val_some, cond_true, tab_len]
  have h0 : L27_32_0 FU rates (caps.length : Int) 0 caps flows (tab flows.length fun i => totS (rates.getD i [])) false (tab caps.length (loadS flows rates)) prices = some (cond (carriesS caps flows rates) (.inr ()) (.inl false)) := by
    unfold carriesS
    refine all_loop (m := caps.length) (by omega) (fun n j => L27_32_0 n rates (caps.length : Int) j caps flows (tab flows.length fun i => totS (rates.getD i [])) false (tab caps.length (loadS flows rates)) prices) _ (fun n k hk => ?_) fun n => ?_
    · show L27_32_0 (n + 1) _ _ _ _ _ _ _ _ _ = _
      have hcap := h.cap k
      rw [qL27_32_0, decide_eq_true (show (k : Int) < (caps.length : Int) by omega), decide_eq_true (show (0 : Int) ≤ (k : Int) by omega), up1 (by omega)]
      simp only [cond_true, Int.toNat_natCast, tab_len]
      rw [decide_eq_true (show (k : Int) < (caps.length : Int) by omega), decide_eq_true hk]
      have w1 : IntKind.wrap IntKind.i64 (1000000 * caps.getD k 0) = 1000000 * caps.getD k 0 := wrap_id (by omega) (by omega)
      simp only [cond_true, tab_get (loadS flows rates) hk, w1]
      by_cases c : loadS flows rates k ≤ 1000000 * caps.getD k 0
      · rw [decide_eq_true c, decide_eq_false (show ¬ loadS flows rates k > 1000000 * caps.getD k 0 by omega)]; rfl
      · rw [decide_eq_false c, decide_eq_true (show loadS flows rates k > 1000000 * caps.getD k 0 by omega)]; rfl
    · show L27_32_0 (n + 1) _ _ _ _ _ _ _ _ _ = _
      rw [qL27_32_0, decide_eq_false (show ¬ (caps.length : Int) < (caps.length : Int) by omega)]
      rfl
  rw [h0, v52_1_eq h]
  cases carriesS caps flows rates with
  | false => rfl
  | true => cases paysS flows rates prices <;> rfl
theorem cost_bd {j : Nat} (hj : j ≤ 20) : 0 ≤ sumN j (fun k => prices.getD k 0 * caps.getD k 0) ∧ sumN j (fun k => prices.getD k 0 * caps.getD k 0) ≤ 20 * (1000000000000 * 1000) :=
  sumN_bd hj (fun k _ => by
    have hp := h.price k
    have hc := h.cap k
    exact ⟨Int.mul_nonneg hp.1 hc.1, Int.le_trans (Int.mul_le_mul_of_nonneg_right hp.2 hc.1) (Int.mul_le_mul_of_nonneg_left hc.2 (by omega))⟩) (by omega)
theorem v28_eq : v28 caps flows prices = some (costS caps prices) := by
  have hp := h.few.hp
  have hpl := h.pl
  have h0 : L28_0_0 FU 0 prices (prices.length : Int) 0 caps flows = some (costS caps prices) := by
    refine at_loop (m := prices.length) (by omega) (fun n j (s : Int) => L28_0_0 n s prices (prices.length : Int) j caps flows) (fun j => sumN j fun k => prices.getD k 0 * caps.getD k 0) (costS caps prices) (fun n k hk => ?_) fun n => ?_
    · show L28_0_0 (n + 1) _ _ _ _ _ _ = L28_0_0 n _ _ _ _ _ _
      have hb := cost_bd h (j := k + 1) (by omega)
      have hb0 := cost_bd h (j := k) (by omega)
      have hs : sumN (k + 1) (fun k => prices.getD k 0 * caps.getD k 0) = sumN k (fun k => prices.getD k 0 * caps.getD k 0) + prices.getD k 0 * caps.getD k 0 := rfl
      have hk1 := h.price k
      have hk2 := h.cap k
      have hm0 : 0 ≤ prices.getD k 0 * caps.getD k 0 := Int.mul_nonneg hk1.1 hk2.1
      rw [qL28_0_0, decide_eq_true (show (k : Int) < (prices.length : Int) by omega), decide_eq_true (show (0 : Int) ≤ (k : Int) by omega), decide_eq_true (show (k : Int) < (caps.length : Int) by omega), up1 (by omega)]
      simp only [cond_true, Int.toNat_natCast]
      rw [wrap_id (x := prices.getD k 0 * caps.getD k 0) (by omega) (by omega), ← hs, wrap_id (by omega) (by omega)]
    · show L28_0_0 (n + 1) _ _ _ _ _ _ = _
      rw [qL28_0_0, decide_eq_false (show ¬ (prices.length : Int) < (prices.length : Int) by omega)]
      rfl
  unfold v28
  rw [h0]; rfl
end
def gapS (caps : List Int) (flows : Fl) (rates : List (List Int)) (prices : List Int) : Int × Int :=
  cond (validS caps flows && (ratesS flows rates && pricesS caps prices)) (cond (soundS caps flows rates prices) (cond (decide (max 0 (costS caps prices - 1000000 * (flows.length : Int)) ≤ 1000000000000)) (max 0 (costS caps prices - 1000000 * (flows.length : Int)), 0) (0, 3)) (0, 17)) (0, 1)
theorem v11_eq {caps : List Int} {flows : Fl} {rates : List (List Int)} {prices : List Int} (hf : Few caps flows rates prices) : v11 caps flows rates prices = some (gapS caps flows rates prices) := by
  unfold v11 gapS
  rw [v13_eq hf, v26_eq hf]
  simp only [ok_some, val_some, cond_true, cond_nb]
  cases h1 : validS caps flows with
  | false => rfl
  | true =>
    cases h2 : ratesS flows rates with
    | false => rfl
    | true =>
      cases h3 : pricesS caps prices with
      | false => rfl
      | true =>
        have h := ok_of hf h1 h2 h3
        have hc := cost_bd h (j := prices.length) hf.hp
        have hfl := hf.hf
        have hc' : 0 ≤ costS caps prices ∧ costS caps prices ≤ 20 * (1000000000000 * 1000) := hc
        rw [v27_eq h, v28_eq h]
        simp only [ok_some, val_some, cond_true, Bool.and_self]
        have w1 : IntKind.wrap IntKind.i64 (1000000 * (flows.length : Int)) = 1000000 * (flows.length : Int) := wrap_id (by omega) (by omega)
        have w2 : IntKind.wrap IntKind.i64 (costS caps prices - 1000000 * (flows.length : Int)) = costS caps prices - 1000000 * (flows.length : Int) := wrap_id (by omega) (by omega)
        simp only [w1, w2]
        cases soundS caps flows rates prices with
        | false => rfl
        | true =>
          simp only [cond_true]
          generalize max 0 (costS caps prices - 1000000 * (flows.length : Int)) = g
          by_cases c : g ≤ 1000000000000
          · rw [decide_eq_true c, decide_eq_false (show ¬ g > 1000000000000 by omega)]; rfl
          · rw [decide_eq_false c, decide_eq_true (show g > 1000000000000 by omega)]; rfl
def checkS (caps : List Int) (flows : Fl) (rates : List (List Int)) (prices : List Int) (gap : Int) : Bool :=
  decide ((gapS caps flows rates prices).2 = 0 ∧ (gapS caps flows rates prices).1 ≤ gap ∧ gap ≤ 1000000000000)
theorem v15_eq {caps : List Int} {flows : Fl} {rates : List (List Int)} {prices : List Int} (hf : Few caps flows rates prices) (gap : Int) : v15 caps flows rates prices gap = some (checkS caps flows rates prices gap) := by
  unfold v15 checkS
  rw [v11_eq hf, v31_eq]
  simp only [ok_some, val_some, cond_true, beq_dec]
  exact and_cond _ _
def sig (n k i : Nat) : Nat := if i + k < n then i + k else i + k - n
theorem sig_lt {n k i : Nat} (hk : k < n) (hi : i < n) : sig n k i < n := by unfold sig; split <;> omega
theorem sig_onto {n k j : Nat} (hk : k < n) (hj : j < n) : ∃ i, i < n ∧ sig n k i = j := by
  by_cases c : k ≤ j
  · exact ⟨j - k, by omega, by unfold sig; rw [if_pos (by omega)]; omega⟩
  · exact ⟨j + n - k, by omega, by unfold sig; rw [if_neg (by omega)]; omega⟩
theorem sumN_split (a b : Nat) (f : Nat → Int) : sumN (a + b) f = sumN a f + sumN b fun i => f (a + i) := by
  induction b with
  | zero => simp [sumN]
  | succ b ih => rw [show a + (b + 1) = (a + b) + 1 by omega]; simp only [sumN]; rw [ih]; omega
theorem sumN_sig {n k : Nat} (hk : k < n) (f : Nat → Int) : sumN n (fun i => f (sig n k i)) = sumN n f := by
  have e1 := sumN_split (n - k) k fun i => f (sig n k i)
  have e2 := sumN_split k (n - k) f
  rw [show n - k + k = n by omega] at e1
  rw [show k + (n - k) = n by omega] at e2
  rw [e1, e2, sumN_congr (n := n - k) (g := fun i => f (k + i)) fun i hi => by unfold sig; rw [if_pos (by omega), Nat.add_comm],
    sumN_congr (n := k) (g := f) fun i hi => by unfold sig; rw [if_neg (by omega)]; congr 1; omega]
  omega
theorem all_sig {n k : Nat} (hk : k < n) (f : Nat → Bool) : ((List.range n).all fun i => f (sig n k i)) = (List.range n).all f := by
  apply Bool.eq_iff_iff.2
  simp only [List.all_eq_true, List.mem_range]
  constructor
  · intro h j hj
    obtain ⟨i, hi, e⟩ := sig_onto hk hj
    rw [← e]; exact h i hi
  · intro h i hi; exact h _ (sig_lt hk hi)
theorem all_congr_range {n : Nat} {f g : Nat → Bool} (h : ∀ i, i < n → f i = g i) : (List.range n).all f = (List.range n).all g := by
  apply Bool.eq_iff_iff.2
  simp only [List.all_eq_true, List.mem_range]
  constructor
  · intro a i hi; rw [← h i hi]; exact a i hi
  · intro a i hi; rw [h i hi]; exact a i hi
def rot {α : Type} (l : List α) (b : Nat) : List α := l.drop (b % l.length) ++ l.take (b % l.length)
theorem rot_nil {α : Type} (b : Nat) : rot ([] : List α) b = [] := by simp [rot]
theorem rot_len {α : Type} (l : List α) (b : Nat) : (rot l b).length = l.length := by
  unfold rot
  rw [List.length_append, List.length_drop, List.length_take]
  by_cases h : l.length = 0
  · omega
  · have := Nat.mod_lt b (show 0 < l.length by omega); omega
theorem rot_get {α : Type} (l : List α) (b : Nat) (d : α) {i : Nat} (hi : i < l.length) : (rot l b).getD i d = l.getD (sig l.length (b % l.length) i) d := by
  have hk := Nat.mod_lt b (show 0 < l.length by omega)
  unfold rot sig
  rw [List.getD_eq_getElem?_getD, List.getD_eq_getElem?_getD, List.getElem?_append, List.length_drop]
  by_cases c : i + b % l.length < l.length
  · rw [if_pos (by omega), if_pos c, List.getElem?_drop, Nat.add_comm]
  · rw [if_neg (by omega), if_neg c, List.getElem?_take, if_pos (by omega), show i - (l.length - b % l.length) = i + b % l.length - l.length by omega]
theorem rot_any {α : Type} (l : List α) (b : Nat) (d : α) (i : Nat) : (rot l b).getD i d = d ∨ ∃ j, (rot l b).getD i d = l.getD j d := by
  by_cases hi : i < l.length
  · exact .inr ⟨_, rot_get l b d hi⟩
  · left
    rw [List.getD_eq_getElem?_getD, List.getElem?_eq_none (by rw [rot_len]; omega)]; rfl
theorem rot_all {α : Type} (l : List α) (b : Nat) (p : α → Bool) : (rot l b).all p = l.all p := by
  unfold rot
  rw [List.all_append, Bool.and_comm, ← List.all_append, List.take_append_drop]
theorem tot_rot (r : List Int) (b : Nat) : totS (rot r b) = totS r := by
  unfold totS
  rw [rot_len]
  by_cases h : r.length = 0
  · rw [h]; rfl
  have hk := Nat.mod_lt b (show 0 < r.length by omega)
  rw [sumN_congr fun t ht => rot_get r b 0 ht]
  exact sumN_sig hk fun t => r.getD t 0
theorem flowS_rot (links : Int) (f : List (List Int)) (b : Nat) : flowS links (rot f b) = flowS links f := by
  unfold flowS
  rw [rot_len, rot_all]
theorem gap_same {caps : List Int} {flows flows' : Fl} {rates rates' : List (List Int)} {prices : List Int} (h0 : flows'.length = flows.length) (h1 : flows'.all (flowS caps.length) = flows.all (flowS caps.length)) (h2 : ratesS flows' rates' = ratesS flows rates)
    (h3 : ∀ k, loadS flows' rates' k = loadS flows rates k) (h4 : paysS flows' rates' prices = paysS flows rates prices) : gapS caps flows' rates' prices = gapS caps flows rates prices := by
  have hc : carriesS caps flows' rates' = carriesS caps flows rates := by
    unfold carriesS
    exact all_congr_range fun k _ => by rw [h3 k]
  have hv : validS caps flows' = validS caps flows := by unfold validS; rw [h0, h1]
  unfold gapS soundS
  rw [hv, h2, hc, h4, h0]
theorem gap_rot {caps : List Int} {flows : Fl} {rates : List (List Int)} {prices : List Int} (hl : rates.length = flows.length) (b : Nat) : gapS caps (rot flows b) (rot rates b) prices = gapS caps flows rates prices := by
  by_cases hz : flows.length = 0
  · have e1 : flows = [] := List.length_eq_zero_iff.1 hz
    have e2 : rates = [] := List.length_eq_zero_iff.1 (by omega)
    rw [e1, e2, rot_nil, rot_nil]
  have hk := Nat.mod_lt b (show 0 < flows.length by omega)
  have gf : ∀ i, i < flows.length → (rot flows b).getD i [] = flows.getD (sig flows.length (b % flows.length) i) [] := fun i hi => rot_get flows b [] hi
  have gr : ∀ i, i < flows.length → (rot rates b).getD i [] = rates.getD (sig flows.length (b % flows.length) i) [] := fun i hi => by
    rw [rot_get rates b [] (by omega), hl]
  refine gap_same (rot_len _ _) (rot_all _ _ _) ?_ (fun k => ?_) ?_
  · unfold ratesS
    rw [rot_len, rot_len, hl]
    congr 1
    rw [all_congr_range fun i hi => by rw [gf i hi, gr i hi]]
    exact all_sig hk fun i => cond (decide ((rates.getD i []).length = (flows.getD i []).length)) (upto 1000000000 (rates.getD i [])) false
  · unfold loadS
    rw [rot_len]
    have : ∀ i, i < flows.length → (sumN ((rot flows b).getD i []).length fun t => pk (pth (rot flows b) i t) (rt (rot rates b) i t) k) = (fun i => sumN (flows.getD i []).length fun t => pk (pth flows i t) (rt rates i t) k) (sig flows.length (b % flows.length) i) := fun i hi => by
      show (sumN ((rot flows b).getD i []).length fun t => pk (((rot flows b).getD i []).getD t []) (((rot rates b).getD i []).getD t 0) k) = _
      rw [gf i hi, gr i hi]
    rw [sumN_congr this]
    exact sumN_sig hk fun i => sumN (flows.getD i []).length fun t => pk (pth flows i t) (rt rates i t) k
  · unfold paysS
    rw [rot_len]
    have : ∀ i, i < flows.length → ((List.range ((rot flows b).getD i []).length).all fun t => decide (1000000000000 ≤ priceS (pth (rot flows b) i t) prices * totS ((rot rates b).getD i []))) = (fun i => (List.range (flows.getD i []).length).all fun t => decide (1000000000000 ≤ priceS (pth flows i t) prices * totS (rates.getD i []))) (sig flows.length (b % flows.length) i) := fun i hi => by
      show ((List.range ((rot flows b).getD i []).length).all fun t => decide (1000000000000 ≤ priceS (((rot flows b).getD i []).getD t []) prices * totS ((rot rates b).getD i []))) = _
      rw [gf i hi, gr i hi]
    rw [all_congr_range this]
    exact all_sig hk fun i => (List.range (flows.getD i []).length).all fun t => decide (1000000000000 ≤ priceS (pth flows i t) prices * totS (rates.getD i []))
def eachF (flows : Fl) (b n : Nat) : Fl := (List.range n).map fun i => rot (flows.getD i []) b
def eachR (rates : List (List Int)) (b n : Nat) : List (List Int) := (List.range n).map fun i => rot (rates.getD i []) b
theorem each_get {α : Type} (l : List (List α)) (b n : Nat) {i : Nat} (hi : i < n) : ((List.range n).map fun i => rot (l.getD i []) b).getD i [] = rot (l.getD i []) b := by
  simp [List.getD, List.getElem?_map, List.getElem?_range hi]
theorem each_any {α : Type} (l : List (List α)) (b n i : Nat) : ((List.range n).map fun i => rot (l.getD i []) b).getD i [] = [] ∨ ((List.range n).map fun i => rot (l.getD i []) b).getD i [] = rot (l.getD i []) b := by
  by_cases hi : i < n
  · exact .inr (each_get l b n hi)
  · left; rw [List.getD_eq_getElem?_getD, List.getElem?_eq_none (by simp; omega)]; rfl
theorem gap_each {caps : List Int} {flows : Fl} {rates : List (List Int)} {prices : List Int} (hl : rates.length = flows.length) (he : ∀ i, i < flows.length → (flows.getD i []).length = (rates.getD i []).length) (b : Nat) : gapS caps (eachF flows b flows.length) (eachR rates b flows.length) prices = gapS caps flows rates prices := by
  have gf : ∀ i, i < flows.length → (eachF flows b flows.length).getD i [] = rot (flows.getD i []) b := fun i hi => each_get flows b flows.length hi
  have gr : ∀ i, i < flows.length → (eachR rates b flows.length).getD i [] = rot (rates.getD i []) b := fun i hi => each_get rates b flows.length hi
  have lf : (eachF flows b flows.length).length = flows.length := by simp [eachF]
  have lr : (eachR rates b flows.length).length = flows.length := by simp [eachR]
  refine gap_same lf ?_ ?_ (fun k => ?_) ?_
  · rw [← all_range (eachF flows b flows.length) [] (flowS caps.length), ← all_range flows [] (flowS caps.length), lf]
    exact all_congr_range fun i hi => by rw [gf i hi, flowS_rot]
  · unfold ratesS
    rw [lf, lr, hl]
    congr 1
    exact all_congr_range fun i hi => by
      rw [gf i hi, gr i hi, rot_len, rot_len]
      unfold upto
      rw [rot_all]
  · unfold loadS
    rw [lf]
    apply sumN_congr
    intro i hi
    show (sumN ((eachF flows b flows.length).getD i []).length fun t => pk (((eachF flows b flows.length).getD i []).getD t []) (((eachR rates b flows.length).getD i []).getD t 0) k) = _
    rw [gf i hi, gr i hi, rot_len]
    by_cases hz : (flows.getD i []).length = 0
    · rw [hz]; rfl
    have hk := Nat.mod_lt b (show 0 < (flows.getD i []).length by omega)
    have e : ∀ t, t < (flows.getD i []).length → pk ((rot (flows.getD i []) b).getD t []) ((rot (rates.getD i []) b).getD t 0) k = (fun t => pk (pth flows i t) (rt rates i t) k) (sig (flows.getD i []).length (b % (flows.getD i []).length) t) := fun t ht => by
      rw [rot_get _ b [] ht, rot_get _ b 0 (by rw [← he i hi]; exact ht), ← he i hi]
    rw [sumN_congr e]
    exact sumN_sig hk fun t => pk (pth flows i t) (rt rates i t) k
  · unfold paysS
    rw [lf]
    apply all_congr_range
    intro i hi
    show ((List.range ((eachF flows b flows.length).getD i []).length).all fun t => decide (1000000000000 ≤ priceS (((eachF flows b flows.length).getD i []).getD t []) prices * totS ((eachR rates b flows.length).getD i []))) = _
    rw [gf i hi, gr i hi, rot_len, tot_rot]
    by_cases hz : (flows.getD i []).length = 0
    · rw [hz]; rfl
    have hk := Nat.mod_lt b (show 0 < (flows.getD i []).length by omega)
    have e : ∀ t, t < (flows.getD i []).length → decide (1000000000000 ≤ priceS ((rot (flows.getD i []) b).getD t []) prices * totS (rates.getD i [])) = (fun t => decide (1000000000000 ≤ priceS (pth flows i t) prices * totS (rates.getD i []))) (sig (flows.getD i []).length (b % (flows.getD i []).length) t) := fun t ht => by
      rw [rot_get _ b [] ht]
    rw [all_congr_range e]
    exact all_sig hk fun t => decide (1000000000000 ≤ priceS (pth flows i t) prices * totS (rates.getD i []))
theorem few_rot {caps : List Int} {flows : Fl} {rates : List (List Int)} {prices : List Int} (h : Few caps flows rates prices) (b : Nat) : Few caps (rot flows b) (rot rates b) prices := by
  refine ⟨h.hc, by rw [rot_len]; exact h.hf, by rw [rot_len]; exact h.hr, h.hp, fun i => ?_, fun i k => ?_, fun i => ?_⟩
  · rcases rot_any flows b [] i with e | ⟨j, e⟩ <;> rw [e]
    · exact Nat.zero_le _
    · exact h.flow j
  · rcases rot_any flows b [] i with e | ⟨j, e⟩ <;> rw [e]
    · exact Nat.zero_le _
    · exact h.path j k
  · rcases rot_any rates b [] i with e | ⟨j, e⟩ <;> rw [e]
    · exact Nat.zero_le _
    · exact h.rate j
theorem few_each {caps : List Int} {flows : Fl} {rates : List (List Int)} {prices : List Int} (h : Few caps flows rates prices) (b : Nat) : Few caps (eachF flows b flows.length) (eachR rates b flows.length) prices := by
  have hf := h.hf
  refine ⟨h.hc, by simpa [eachF] using h.hf, by simpa [eachR] using hf, h.hp, fun i => ?_, fun i k => ?_, fun i => ?_⟩
  · rcases each_any flows b flows.length i with e | e <;> unfold eachF <;> rw [e]
    · exact Nat.zero_le _
    · rw [rot_len]; exact h.flow i
  · rcases each_any flows b flows.length i with e | e <;> unfold eachF <;> rw [e]
    · exact Nat.zero_le _
    · rcases rot_any (flows.getD i []) b [] k with e | ⟨j, e⟩ <;> rw [e]
      · exact Nat.zero_le _
      · exact h.path i j
  · rcases each_any rates b flows.length i with e | e <;> unfold eachR <;> rw [e]
    · exact Nat.zero_le _
    · rw [rot_len]; exact h.rate i
end Go.Proofs.Ytajodcnnadbjkaa
set_option linter.unusedVariables false
set_option maxRecDepth 100000
namespace Go.Proofs.Ytajodcnnadbjkaa
open Go Go.AM Go.TM Go.Proofs
noncomputable def rotV {α : Type} (x0 : List α) (x1 : Int) : Option (List α) := (cond ((↑(List.length x0) : Int) == (0 : Int)) (some ([])) (cond (decide ((↑(List.length x0) : Int) ≠ (0 : Int))) (cond (decide ((0 : Int) ≤ Int.tmod x1 (↑(List.length x0) : Int))) (cond (decide (Int.toNat (Int.tmod x1 (↑(List.length x0) : Int)) ≤ List.length x0)) (cond (decide (List.length x0 ≤ List.length x0)) (cond (decide (List.length (List.drop (Int.toNat (Int.tmod x1 (↑(List.length x0) : Int))) (List.take (List.length x0) x0)) ≤ nat_lit 2147483648)) (cond (decide (Int.toNat (Int.tmod x1 (↑(List.length x0) : Int)) ≤ Int.toNat (Int.tmod x1 (↑(List.length x0) : Int)))) (cond (decide (List.length (List.drop (Int.toNat (Int.tmod x1 (↑(List.length x0) : Int))) (List.take (List.length x0) x0)) + List.length (List.drop (0 : Nat) (List.take (Int.toNat (Int.tmod x1 (↑(List.length x0) : Int))) x0)) ≤ nat_lit 2147483648)) (some (List.drop (Int.toNat (Int.tmod x1 (↑(List.length x0) : Int))) (List.take (List.length x0) x0) ++ List.drop (0 : Nat) (List.take (Int.toNat (Int.tmod x1 (↑(List.length x0) : Int))) x0))) none) none) none) none) none) none) none))
theorem rotV_eq {α : Type} (l : List α) (b : Nat) (hl : l.length ≤ 20) : rotV l (b : Int) = some (rot l b) := by
  unfold rotV
  by_cases h : l.length = 0
  · have e : l = [] := List.length_eq_zero_iff.1 h
    subst e
    rw [rot_nil]
    rfl
  have hm : Int.tmod (b : Int) (l.length : Int) = ((b % l.length : Nat) : Int) := by rw [Int.tmod_eq_emod_of_nonneg (by omega)]; omega
  have hk := Nat.mod_lt b (show 0 < l.length by omega)
  have h0 : ((l.length : Int) == 0) = false := by simpa using h
  rw [h0, hm, decide_eq_true (show (l.length : Int) ≠ 0 by omega), decide_eq_true (show (0 : Int) ≤ ((b % l.length : Nat) : Int) by omega), Int.toNat_natCast, decide_eq_true (show b % l.length ≤ l.length by omega), decide_eq_true (Nat.le_refl _), decide_eq_true (Nat.le_refl _), List.take_length]
  rw [decide_eq_true (show (l.drop (b % l.length)).length ≤ nat_lit 2147483648 by
    rw [List.length_drop]; show _ ≤ 2147483648; omega)]
  rw [decide_eq_true (show (l.drop (b % l.length)).length + (List.drop (0 : Nat) (l.take (b % l.length))).length ≤ nat_lit 2147483648 by
    rw [List.length_drop, List.length_drop, List.length_take]; show _ ≤ 2147483648; omega)]
  simp only [cond_true, cond_false, List.drop_zero]
  rfl
theorem v20_eq {l : Fl} (b : Nat) (hl : l.length ≤ 20) : v20 l (b : Int) = some (rot l b) := rotV_eq l b hl
theorem v21_eq {l : List (List Int)} (b : Nat) (hl : l.length ≤ 20) : v21 l (b : Int) = some (rot l b) := rotV_eq l b hl
theorem v22_eq {l : List Int} (b : Nat) (hl : l.length ≤ 20) : v22 l (b : Int) = some (rot l b) := rotV_eq l b hl
theorem eachF_snoc (flows : Fl) (b i : Nat) : eachF flows b i ++ [rot (flows.getD i []) b] = eachF flows b (i + 1) := by
  unfold eachF; rw [List.range_succ, List.map_append]; rfl
theorem eachR_snoc (rates : List (List Int)) (b i : Nat) : eachR rates b i ++ [rot (rates.getD i []) b] = eachR rates b (i + 1) := by
  unfold eachR; rw [List.range_succ, List.map_append]; rfl
section
variable {caps : List Int} {flows : Fl} {rates : List (List Int)} {prices : List Int} (h : Few caps flows rates prices) (hl : rates.length = flows.length) (b : Nat) (hb : b ≤ 255) (n0 e a f : Int)
include h hl hb
theorem l6_92 (i j : Nat) (hi : i < flows.length) : L6_92_0 rates prices (b : Int) true n0 e a f (i : Int) (flows.getD i []) flows (flows.length : Int) (j : Int) caps (eachR rates b i) (eachF flows b i) =
    cond (decide ((flows.getD i []).length = (rates.getD i []).length)) (some (.inr (eachR rates b (i + 1), eachF flows b (i + 1)))) (some (.inl (cond (e == 1) (f == 1) false))) := by
  have hf := h.hf
  have wb : IntKind.wrap IntKind.i64 (b : Int) = (b : Int) := wrap_id (by omega) (by omega)
  have l1 : (eachF flows b i).length = i := by simp [eachF]
  have l2 : (eachR rates b i).length = i := by simp [eachR]
  unfold L6_92_0
  rw [wb, v21_eq b (h.flow i)]
  simp only [ok_some, val_some, cond_true]
  rw [decide_eq_true (show (eachF flows b i).length + [rot (flows.getD i []) b].length ≤ nat_lit 2147483648 by rw [l1]; show i + 1 ≤ 2147483648; omega), decide_eq_true (show (0 : Int) ≤ (i : Int) by omega), decide_eq_true (show (i : Int) < (rates.length : Int) by omega), Int.toNat_natCast, v22_eq b (h.rate i)]
  simp only [ok_some, val_some, cond_true]
  rw [decide_eq_true (show (eachR rates b i).length + [rot (rates.getD i []) b].length ≤ nat_lit 2147483648 by rw [l2]; show i + 1 ≤ 2147483648; omega), bne_len, eachF_snoc, eachR_snoc]
  cases decide ((flows.getD i []).length = (rates.getD i []).length) with
  | true => rfl
  | false =>
    simp only [cond_true, cond_false, Bool.not_false]
    cases e == 1 <;> rfl
theorem l6_0 : ∀ (k i n : Nat), i + k = flows.length → k < n →
    ((∃ j, j < flows.length ∧ (flows.getD j []).length ≠ (rates.getD j []).length) ∧ L6_0_0 n rates prices (b : Int) true n0 e a f flows (flows.length : Int) (i : Int) caps (eachR rates b i) (eachF flows b i) = some (.inl (cond (e == 1) (f == 1) false))) ∨
    ((∀ j, i ≤ j → j < flows.length → (flows.getD j []).length = (rates.getD j []).length) ∧ L6_0_0 n rates prices (b : Int) true n0 e a f flows (flows.length : Int) (i : Int) caps (eachR rates b i) (eachF flows b i) = some (.inr (eachR rates b flows.length, eachF flows b flows.length)))
  | 0, i, n + 1, hk, _ => by
    right
    refine ⟨fun j h1 h2 => by omega, ?_⟩
    have e0 : i = flows.length := by omega
    rw [qL6_0_0, decide_eq_false (show ¬ (i : Int) < (flows.length : Int) by omega), e0]
    rfl
  | k + 1, i, n + 1, hk, hn => by
    have hf := h.hf
    have hi : i < flows.length := by omega
    have st := l6_92 h hl b hb n0 e a f i i hi
    rw [qL6_0_0, decide_eq_true (show (i : Int) < (flows.length : Int) by omega), decide_eq_true (show (0 : Int) ≤ (i : Int) by omega), Int.toNat_natCast, st]
    simp only [cond_true]
    by_cases c : (flows.getD i []).length = (rates.getD i []).length
    · rw [decide_eq_true c]
      simp only [cond_true, isL_inr, cond_false, getR_inr, ok_some, val_some]
      rw [up1 (by omega)]
      rcases l6_0 k (i + 1) n (by omega) (by omega) with ⟨h1, h2⟩ | ⟨h1, h2⟩
      · exact .inl ⟨h1, h2⟩
      · refine .inr ⟨fun j hj1 hj2 => ?_, h2⟩
        by_cases hj : j = i
        · subst hj; exact c
        · exact h1 j (by omega) hj2
    · rw [decide_eq_false c]
      exact .inl ⟨⟨i, hi, c⟩, rfl⟩
end
theorem gap_len {caps : List Int} {flows : Fl} {rates : List (List Int)} {prices : List Int} (hl : rates.length = flows.length) (j : Nat) (hj : j < flows.length) (hne : (flows.getD j []).length ≠ (rates.getD j []).length) : gapS caps flows rates prices = (0, 1) := by
  have hr : ratesS flows rates = false := by
    unfold ratesS
    rw [decide_eq_true hl, Bool.true_and]
    cases hx : ((List.range rates.length).all fun i => cond (decide ((rates.getD i []).length = (flows.getD i []).length)) (upto 1000000000 (rates.getD i [])) false) with
    | false => rfl
    | true =>
      have := List.all_eq_true.1 hx j (by simp; omega)
      rw [decide_eq_false (fun h => hne h.symm)] at this
      cases this
  unfold gapS
  rw [hr]
  cases validS caps flows <;> rfl
theorem v6_true (caps : List Int) (flows : Fl) (rates : List (List Int)) (prices : List Int) (by' : Int) (h0 : 0 ≤ by') (h1 : by' ≤ 255) : v6 caps flows rates prices by' = some true := by
  obtain ⟨b, rfl⟩ : ∃ b : Nat, by' = (b : Int) := ⟨by'.toNat, by omega⟩
  have hb : b ≤ 255 := by omega
  unfold v6
  rw [v10_eq]
  cases hx : fewS caps flows rates prices with
  | false => rfl
  | true =>
    have hf := few_iff hx
    simp only [ok_some, val_some, cond_true, Bool.not_true, cond_false]
    rw [bne_len]
    by_cases hl : rates.length = flows.length
    case neg => rw [decide_eq_false hl]; rfl
    rw [decide_eq_true hl]
    simp only [Bool.not_true, cond_false]
    have wb : IntKind.wrap IntKind.i64 (b : Int) = (b : Int) := wrap_id (by omega) (by omega)
    have key : L6_36_0 rates prices (b : Int) (val v9) caps flows = some true := by
      have h9 : val v9 = true := rfl
      have hr := hf.hr
      unfold L6_36_0
      rw [h9, wb, v11_eq hf, v20_eq b hf.hf, v21_eq b hf.hr]
      simp only [ok_some, val_some, cond_true]
      rw [v11_eq (few_rot hf b), gap_rot hl b]
      simp only [ok_some, val_some, cond_true]
      rcases l6_0 hf hl b hb (gapS caps flows rates prices).1 (gapS caps flows rates prices).2 (gapS caps flows rates prices).1 (gapS caps flows rates prices).2 flows.length 0 FU (by omega) (by have := hf.hf; show flows.length < 18446744073709551616; omega) with ⟨⟨j, hj, hne⟩, h2⟩ | ⟨he, h2⟩
      · have hL : L6_0_0 FU rates prices (b : Int) true (gapS caps flows rates prices).1 (gapS caps flows rates prices).2 (gapS caps flows rates prices).1 (gapS caps flows rates prices).2 flows (flows.length : Int) (0 : Int) caps [] [] = some (.inl (cond ((gapS caps flows rates prices).2 == 1) ((gapS caps flows rates prices).2 == 1) false)) := h2
        rw [hL, gap_len hl j hj hne]
        rfl
      · have hL : L6_0_0 FU rates prices (b : Int) true (gapS caps flows rates prices).1 (gapS caps flows rates prices).2 (gapS caps flows rates prices).1 (gapS caps flows rates prices).2 flows (flows.length : Int) (0 : Int) caps [] [] = some (.inr (eachR rates b flows.length, eachF flows b flows.length)) := h2
        rw [hL]
        simp only [isL_inr, cond_false, getR_inr, ok_some, val_some, cond_true]
        rw [v11_eq (few_each hf b), gap_each hl (fun i hi => he i (Nat.zero_le _) hi) b]
        simp only [ok_some, val_some, cond_true, beq_self_eq_true]
    rw [key]
    rfl
end Go.Proofs.Ytajodcnnadbjkaa
set_option maxRecDepth 100000
namespace Go.Proofs.Ytajodcnnadbjkaa
open Go Go.ChangeShapes Go.WideShapes Go.ChangeAt Go.RowKit Go.AM Go.TM
theorem own0 : ownKnob Try.prog.godebug = none := by kernel_rfl
theorem laid0 : laidOutB Try.prog = true := by kernel_rfl
abbrev taus : List Ty := [.pair (.list 3 (.int .i64)) (.list 26 (.list 22 (.list 3 (.int .i64)))), .list 22 (.list 3 (.int .i64)), .list 3 (.int .i64), .int .u8]
theorem args0 (x : (List Int × List (List (List Int))) × List (List Int) × List Int × Int × Unit) : argsOf Try.prog Try.f6.params.toList taus x = [.agg [.d 3 (.int .i64) x.1.1, .d 26 (.list 22 (.list 3 (.int .i64))) x.1.2], .sc (.d 22 (.list 3 (.int .i64)) x.2.1), .sc (.d 3 (.int .i64) x.2.2.1), .sc (.int .u8 x.2.2.2.1)] := by
  kernel_rfl
theorem law_run : ∀ x : Tup taus, InTup taus x → ∃ k H', TM.evF Try.prog (mkTn base o66 t66) dOk k 6 (argsOf Try.prog Try.f6.params.toList taus x) [] = some ([.sc (.bool true)], H') := by
  intro x hx
  have h3 : 0 ≤ (show Int from x.2.2.2.1) := (hx.2.2.2.1).1
  have k3 : (show Int from x.2.2.2.1) ≤ 255 := (hx.2.2.2.1).2
  have e := args0 x
  rw [e]
  refine ⟨41, [], ?_⟩
  rw [fn_eq (by kernel_rfl), ev6, v6_true _ _ _ _ _ h3 k3]
  rfl
theorem law_lifted (os : Os) (started : os.Started) (H : Type) (enc : TypeId × Value → H) :
    ReturnsInHanded {} Try.checked os 6 .any (Rows.pricesOrderSpec.pre6 enc Try.prog Try.f6 Rows.pricesOrderRow.domain false) (Rows.pricesOrderSpec.post enc Try.prog Try.f6 false true false false) :=
  law_tm (C := Try.checked) (τs := taus) (tb := 4) (base := base) (O := o66) (T := t66) own0 started (by kernel_rfl) Try.func6
    (ChangeSpec.witness6 (enc := enc) (C := Try.checked) false ⟨#[], #[.agg #[.slice none 0 0, .slice none 0 0], .slice none 0 0, .slice none 0 0, .int .u8 0], []⟩ 8 (by kernel_rfl) (by kernel_rfl) (by kernel_rfl) (by kernel_rfl))
    laid0 (by kernel_rfl) (by kernel_rfl) rfl (by kernel_rfl) names mixed ok66 (by kernel_rfl) (by kernel_rfl)
    (fun ds h => by
      match ds, h with
      | [_, _, _, _], _ => rfl)
    law_run
theorem pricesOrder_holds : Rows.PricesOrderSaid :=
  OpenClaim.holds_of_wide 6 Try.f6 rfl rfl rfl rfl rfl rfl rfl ⟨rfl, rfl, rfl, rfl, rfl⟩ rfl rfl rfl rfl rfl (by kernel_rfl) Try.func6 (by kernel_rfl)
    (of_decide_eq_true (by kernel_rfl)) (by unfold Func.isWrapper; first | (rw [if_pos (by decide +kernel)]; kernel_rfl) | (rw [if_neg (by decide +kernel)]; exact ⟨rfl, rfl⟩))
    (fun os started H enc _ => law_lifted os started H enc)
end Go.Proofs.Ytajodcnnadbjkaa
