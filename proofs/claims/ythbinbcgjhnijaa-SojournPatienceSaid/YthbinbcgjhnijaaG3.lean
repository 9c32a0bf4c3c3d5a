/- What some functions and loops come to: printed and checked. Written by a program of ours. -/
import Derived.Test.YthbinbcgjhnijaaG2
set_option linter.all false
set_option linter.constructorNameAsVariable false
set_option linter.unnecessarySimpa false
set_option linter.unusedSimpArgs false
set_option linter.unusedVariables false
set_option maxRecDepth 1000000
set_option linter.unusedVariables false
set_option maxHeartbeats 4000000
namespace Go.Proofs.Ythbinbcgjhnijaa
open Go Go.AM Go.TM Go.Proofs
noncomputable def L24_16_0 : Nat → Int → Int → Int → Int → Int → Int → Int → Int → Int → Int → Int → (List (List (PKt × Int))) → Int → Int → Int → Int → Int → Int → Int → Int → Int → Int → Int → Option Int
 | 0, _, _, _, _, _, _, _, _, _, _, _, _, _, _, _, _, _, _, _, _, _, _, _ => none
 | n + 1, x0, x1, x2, x3, x4, x5, x6, x7, x8, x9, A, B, C, D, E, F, G, I, J, K, L, M, N => (cond (decide (x3 ≤ N)) (cond (decide (x3 ≠ 0)) (L24_16_0 n (x0) (x1) (IntKind.wrap IntKind.i64 (x2 + max (1 : Int) (IntKind.wrap IntKind.i64 (Int.tdiv x8 x3)))) (IntKind.wrap IntKind.i64 (x3 + (1 : Int))) (x4) (x5) (x6) (x7) (x8) (x9) (A) (B) (C) (D) (E) (F) (G) (I) (J) (K) (L) (M) (N)) none) (some (x2)))
theorem qL24_16_0 : type_of% @L24_16_0.eq_2 := @L24_16_0.eq_2
noncomputable def xL24_16_0 (x0 x1 x2 x3 x4 x5 x6 x7 x8 x9 A : Int) (B : (List (List (PKt × Int)))) (C D E F G I J K L M N : Int) : Int → Ex × CS := fun r => ((.exit 2), { sl := [(2, .v (.sc (I4 (x0)))), (5, .v (.sc (I4 (x1)))), (7, .v (.sc (.ptr 0 0))), (8, .v (.sc (.ptr 1 0))), (9, .l 9 0), (18, .v (.sc (I4 (r)))), (72, .v (.sc (I4 (x4)))), (73, .v (.sc (I4 (x5))))], lo := [(9, [I4 (x6), I4 (x7), I4 (x8), I4 (x9), I4 (A), .d 51 (.list 55 QDy) (B), I4 (C), I4 (D), I4 (E), I4 (F), I4 (G), I4 (I), I4 (J), I4 (K), .int .u64 (L)])], h := [.box 3 [I4 (M)], .box 3 [I4 (N)]], n0 := 2, w := false })
theorem bL24_16_0 (k : Nat) (cN : CS → Option (Ex × CS)) (cX : Ex → CS → Option (Ex × CS)) (x0 x1 x2 x3 x4 x5 x6 x7 x8 x9 A : Int) (B : (List (List (PKt × Int)))) (C D E F G I J K L M N : Int) : loopBody Try.prog (mkTn base o32 t32 24) (TM.evF Try.prog (mkTn base o32 t32) dOk (k + 40)) dOk (k + 40) (codeAt Try.prog (tn0 24) 24 16) 2 16 { sl := [(2, .v (.sc (I4 (x0)))), (5, .v (.sc (I4 (x1)))), (7, .v (.sc (.ptr 0 0))), (8, .v (.sc (.ptr 1 0))), (9, .l 9 0), (18, .v (.sc (I4 (x2)))), (19, .v (.sc (I4 (x3)))), (72, .v (.sc (I4 (x4)))), (73, .v (.sc (I4 (x5))))], lo := [(9, [I4 (x6), I4 (x7), I4 (x8), I4 (x9), I4 (A), .d 51 (.list 55 QDy) (B), I4 (C), I4 (D), I4 (E), I4 (F), I4 (G), I4 (I), I4 (J), I4 (K), .int .u64 (L)])], h := [.box 3 [I4 (M)], .box 3 [I4 (N)]], n0 := 2, w := false } cN cX = (cond (decide (x3 ≤ N)) (cond (decide (x3 ≠ 0)) (cN { sl := [(2, .v (.sc (I4 (x0)))), (5, .v (.sc (I4 (x1)))), (7, .v (.sc (.ptr 0 0))), (8, .v (.sc (.ptr 1 0))), (9, .l 9 0), (18, .v (.sc (I4 (IntKind.wrap IntKind.i64 (x2 + max (1 : Int) (IntKind.wrap IntKind.i64 (Int.tdiv x8 x3))))))), (19, .v (.sc (I4 (IntKind.wrap IntKind.i64 (x3 + (1 : Int)))))), (72, .v (.sc (I4 (x4)))), (73, .v (.sc (I4 (x5))))], lo := [(9, [I4 (x6), I4 (x7), I4 (x8), I4 (x9), I4 (A), .d 51 (.list 55 QDy) (B), I4 (C), I4 (D), I4 (E), I4 (F), I4 (G), I4 (I), I4 (J), I4 (K), .int .u64 (L)])], h := [.box 3 [I4 (M)], .box 3 [I4 (N)]], n0 := 2, w := false }) none) (cX (.exit 2) { sl := [(2, .v (.sc (I4 (x0)))), (5, .v (.sc (I4 (x1)))), (7, .v (.sc (.ptr 0 0))), (8, .v (.sc (.ptr 1 0))), (9, .l 9 0), (18, .v (.sc (I4 (x2)))), (72, .v (.sc (I4 (x4)))), (73, .v (.sc (I4 (x5))))], lo := [(9, [I4 (x6), I4 (x7), I4 (x8), I4 (x9), I4 (A), .d 51 (.list 55 QDy) (B), I4 (C), I4 (D), I4 (E), I4 (F), I4 (G), I4 (I), I4 (J), I4 (K), .int .u64 (L)])], h := [.box 3 [I4 (M)], .box 3 [I4 (N)]], n0 := 2, w := false })) := by kernel_rfl
theorem lL24_16_0 (k m : Nat) : ∀ (n : Nat) (x0 x1 x2 x3 x4 x5 x6 x7 x8 x9 A : Int) (B : (List (List (PKt × Int)))) (C D E F G I J K L M N : Int) (r : Int), L24_16_0 n x0 x1 x2 x3 x4 x5 x6 x7 x8 x9 A B C D E F G I J K L M N = some r → loopE Try.prog (mkTn base o32 t32 24) (TM.evF Try.prog (mkTn base o32 t32) dOk (k + 40)) dOk (k + 40) (codeAt Try.prog (tn0 24) 24 16) 2 16 (n + m) { sl := [(2, .v (.sc (I4 (x0)))), (5, .v (.sc (I4 (x1)))), (7, .v (.sc (.ptr 0 0))), (8, .v (.sc (.ptr 1 0))), (9, .l 9 0), (18, .v (.sc (I4 (x2)))), (19, .v (.sc (I4 (x3)))), (72, .v (.sc (I4 (x4)))), (73, .v (.sc (I4 (x5))))], lo := [(9, [I4 (x6), I4 (x7), I4 (x8), I4 (x9), I4 (A), .d 51 (.list 55 QDy) (B), I4 (C), I4 (D), I4 (E), I4 (F), I4 (G), I4 (I), I4 (J), I4 (K), .int .u64 (L)])], h := [.box 3 [I4 (M)], .box 3 [I4 (N)]], n0 := 2, w := false } = some (xL24_16_0 x0 x1 x2 x3 x4 x5 x6 x7 x8 x9 A B C D E F G I J K L M N r) := by
 intro n
 induction n with
 | zero => intro _ _ _ _ _ _ _ _ _ _ _ _ _ _ _ _ _ _ _ _ _ _ _ r h; cases h
 | succ n ih =>
  intro x0 x1 x2 x3 x4 x5 x6 x7 x8 x9 A B C D E F G I J K L M N r
  rw [show n + 1 + m = n + m + 1 by omega, loop_step, bL24_16_0, qL24_16_0]
  refine cond_go ?_ ?_
  refine cond_go ?_ ?_
  exact ih _ _ _ _ _ _ _ _ _ _ _ _ _ _ _ _ _ _ _ _ _ _ _ r
  intro h; cases h
  intro h; cases h; rfl
noncomputable def sL24_16_0 : TellS := fun S => dCS 2 S fun y1 y2 y3 => dSI 2 .i64 y1 fun x0 l4 => dSI 5 .i64 l4 fun x1 l5 => dSs 7 l5 fun y7 l6 => dPtr 0 0 y7 <| dSs 8 l6 fun y9 l8 => dPtr 1 0 y9 <| dSt 9 l8 fun y11 l10 => dL 9 0 y11 <| dSI 18 .i64 l10 fun x2 l12 => dSI 19 .i64 l12 fun x3 l13 => dSI 72 .i64 l13 fun x4 l14 => dSI 73 .i64 l14 fun x5 l15 => dE l15 <| dLo 9 y2 fun y16 l17 => dCI .i64 y16 fun x6 l18 => dCI .i64 l18 fun x7 l19 => dCI .i64 l19 fun x8 l20 => dCI .i64 l20 fun x9 l21 => dCI .i64 l21 fun A l22 => dC l22 fun y23 l24 => dD 51 (.list 55 QDy) y23 fun B => dCI .i64 l24 fun C l25 => dCI .i64 l25 fun D l26 => dCI .i64 l26 fun E l27 => dCI .i64 l27 fun F l28 => dCI .i64 l28 fun G l29 => dCI .i64 l29 fun I l30 => dCI .i64 l30 fun J l31 => dCI .i64 l31 fun K l32 => dCI .u64 l32 fun L l33 => dE l33 <| dE l17 <| dHB 3 y3 fun y35 l34 => dCI .i64 y35 fun M l36 => dE l36 <| dHB 3 l34 fun y38 l37 => dCI .i64 y38 fun N l39 => dE l39 <| dE l37 <|  some [(ok (L24_16_0 FU x0 x1 x2 x3 x4 x5 x6 x7 x8 x9 A B C D E F G I J K L M N), (.exit 2), { sl := [(2, .v (.sc (I4 (x0)))), (5, .v (.sc (I4 (x1)))), (7, .v (.sc (.ptr 0 0))), (8, .v (.sc (.ptr 1 0))), (9, .l 9 0), (18, .v (.sc (I4 ((val (L24_16_0 FU x0 x1 x2 x3 x4 x5 x6 x7 x8 x9 A B C D E F G I J K L M N)))))), (72, .v (.sc (I4 (x4)))), (73, .v (.sc (I4 (x5))))], lo := [(9, [I4 (x6), I4 (x7), I4 (x8), I4 (x9), I4 (A), .d 51 (.list 55 QDy) (B), I4 (C), I4 (D), I4 (E), I4 (F), I4 (G), I4 (I), I4 (J), I4 (K), .int .u64 (L)])], h := [.box 3 [I4 (M)], .box 3 [I4 (N)]], n0 := 2, w := false })]
theorem wL24_16_0 : NewTell Try.prog dOk base o32 t32 ((24, 16), sL24_16_0) := by
 refine ⟨.loop (codeAt Try.prog (tn0 24) 24 16), 2, by kernel_rfl, ?_⟩
 intro S alts e S' h10 h2
 have h1 : sL24_16_0 S = some alts := h10
 clear h10
 unfold sL24_16_0 at h1
 replace h1 := dCS_some h1; obtain ⟨_, _, _, rfl, h1⟩ := h1
 replace h1 := dSI_some h1; obtain ⟨_, _, rfl, h1⟩ := h1
 replace h1 := dSI_some h1; obtain ⟨_, _, rfl, h1⟩ := h1
 replace h1 := dSs_some h1; obtain ⟨_, _, rfl, h1⟩ := h1
 replace h1 := dPtr_some h1; obtain ⟨rfl, h1⟩ := h1
 replace h1 := dSs_some h1; obtain ⟨_, _, rfl, h1⟩ := h1
 replace h1 := dPtr_some h1; obtain ⟨rfl, h1⟩ := h1
 replace h1 := dSt_some h1; obtain ⟨_, _, rfl, h1⟩ := h1
 replace h1 := dL_some h1; obtain ⟨rfl, h1⟩ := h1
 replace h1 := dSI_some h1; obtain ⟨_, _, rfl, h1⟩ := h1
 replace h1 := dSI_some h1; obtain ⟨_, _, rfl, h1⟩ := h1
 replace h1 := dSI_some h1; obtain ⟨_, _, rfl, h1⟩ := h1
 replace h1 := dSI_some h1; obtain ⟨_, _, rfl, h1⟩ := h1
 replace h1 := dE_some h1; obtain ⟨rfl, h1⟩ := h1
 replace h1 := dLo_some h1; obtain ⟨_, _, rfl, h1⟩ := h1
 replace h1 := dJ5 h1; obtain ⟨_, _, _, _, _, _, rfl, h1⟩ := h1
 replace h1 := dC_some h1; obtain ⟨_, _, rfl, h1⟩ := h1
 replace h1 := dD_some h1; obtain ⟨_, rfl, h1⟩ := h1
 replace h1 := dJ9 h1; obtain ⟨_, _, _, _, _, _, _, _, _, _, rfl, h1⟩ := h1
 replace h1 := dE_some h1; obtain ⟨rfl, h1⟩ := h1
 replace h1 := dE_some h1; obtain ⟨rfl, h1⟩ := h1
 replace h1 := dHB_some h1; obtain ⟨_, _, rfl, h1⟩ := h1
 replace h1 := dCI_some h1; obtain ⟨_, _, rfl, h1⟩ := h1
 replace h1 := dE_some h1; obtain ⟨rfl, h1⟩ := h1
 replace h1 := dHB_some h1; obtain ⟨_, _, rfl, h1⟩ := h1
 replace h1 := dCI_some h1; obtain ⟨_, _, rfl, h1⟩ := h1
 replace h1 := dE_some h1; obtain ⟨rfl, h1⟩ := h1
 replace h1 := dE_some h1; obtain ⟨rfl, h1⟩ := h1
 cases h1
 obtain ⟨hc0, rfl, rfl⟩ := pick_one h2
 exact ⟨FU + 40, (evPiece_loop rfl).trans (lL24_16_0 FU 40 FU _ _ _ _ _ _ _ _ _ _ _ _ _ _ _ _ _ _ _ _ _ _ _ _ (ok_val hc0))⟩
noncomputable def o33 : OrcT := o32
noncomputable def t33 : TellT := ((24, 16), sL24_16_0) :: t32
noncomputable abbrev tn33 : FuncId → TAn := mkTn base o33 t33
theorem ok33 : TnOk Try.prog tn33 (mkA base) dOk := by
 have h0 : TnOk Try.prog (mkTn base o32 t32) (mkA base) dOk := ok32
 have h1 := tn_tell h0 h0 (p := ((24, 16), sL24_16_0)) wL24_16_0
 exact h1
noncomputable def L24_0_0 : Nat → Int → Int → Int → Int → Int → Int → Int → Int → Int → (List (List (PKt × Int))) → Int → Int → Int → Int → Int → Int → Int → Int → Int → Int → Int → Option ((Bool × Int) ⊕ Int)
 | 0, _, _, _, _, _, _, _, _, _, _, _, _, _, _, _, _, _, _, _, _, _ => none
 | n + 1, x0, x1, x2, x3, x4, x5, x6, x7, x8, x9, A, B, C, D, E, F, G, I, J, K, L => (cond (decide (x3 < x2)) (cond (ok (L24_16_0 FU x0 x1 0 (1 : Int) x2 x3 x4 x5 x6 x7 x8 x9 A B C D E F G I J K (IntKind.wrap IntKind.i64 (L + (1 : Int))))) (cond (decide (IntKind.wrap IntKind.i64 (x0 - K) < val (L24_16_0 FU x0 x1 0 (1 : Int) x2 x3 x4 x5 x6 x7 x8 x9 A B C D E F G I J K (IntKind.wrap IntKind.i64 (L + (1 : Int)))))) (some (.inl (false, IntKind.wrap IntKind.i64 (L + (1 : Int))))) (L24_0_0 n (x0) (x1) (x2) (IntKind.wrap IntKind.i64 (x3 + (1 : Int))) (x4) (x5) (x6) (x7) (x8) (x9) (A) (B) (C) (D) (E) (F) (G) (I) (J) (K) (IntKind.wrap IntKind.i64 (L + (1 : Int))))) none) (some (.inr (L))))
theorem qL24_0_0 : type_of% @L24_0_0.eq_2 := @L24_0_0.eq_2
noncomputable def xL24_0_0 (x0 x1 x2 x3 x4 x5 x6 x7 x8 : Int) (x9 : (List (List (PKt × Int)))) (A B C D E F G I J K L : Int) : ((Bool × Int) ⊕ Int) → Ex × CS := fun r => match r with | .inl a0 => (.ret, { sl := [(16, .v (.sc (.bool (a0.1))))], lo := [], h := [.box 3 [I4 (K)], .box 3 [I4 (a0.2)]], n0 := 2, w := true }) | .inr b0 => ((.exit 0), { sl := [(2, .v (.sc (I4 (x0)))), (5, .v (.sc (I4 (x1)))), (7, .v (.sc (.ptr 0 0))), (8, .v (.sc (.ptr 1 0))), (9, .l 9 0)], lo := [(9, [I4 (x4), I4 (x5), I4 (x6), I4 (x7), I4 (x8), .d 51 (.list 55 QDy) (x9), I4 (A), I4 (B), I4 (C), I4 (D), I4 (E), I4 (F), I4 (G), I4 (I), .int .u64 (J)])], h := [.box 3 [I4 (K)], .box 3 [I4 (b0)]], n0 := 2, w := false })
theorem bL24_0_0 (k : Nat) (cN : CS → Option (Ex × CS)) (cX : Ex → CS → Option (Ex × CS)) (x0 x1 x2 x3 x4 x5 x6 x7 x8 : Int) (x9 : (List (List (PKt × Int)))) (A B C D E F G I J K L : Int) : loopBody Try.prog (mkTn base o33 t33 24) (TM.evF Try.prog (mkTn base o33 t33) dOk (k + 40)) dOk (k + 40) (codeAt Try.prog (tn0 24) 24 0) 0 0 { sl := [(2, .v (.sc (I4 (x0)))), (5, .v (.sc (I4 (x1)))), (7, .v (.sc (.ptr 0 0))), (8, .v (.sc (.ptr 1 0))), (9, .l 9 0), (72, .v (.sc (I4 (x2)))), (73, .v (.sc (I4 (x3))))], lo := [(9, [I4 (x4), I4 (x5), I4 (x6), I4 (x7), I4 (x8), .d 51 (.list 55 QDy) (x9), I4 (A), I4 (B), I4 (C), I4 (D), I4 (E), I4 (F), I4 (G), I4 (I), .int .u64 (J)])], h := [.box 3 [I4 (K)], .box 3 [I4 (L)]], n0 := 2, w := false } cN cX = (cond (decide (x3 < x2)) (cond (ok (L24_16_0 FU x0 x1 0 (1 : Int) x2 x3 x4 x5 x6 x7 x8 x9 A B C D E F G I J K (IntKind.wrap IntKind.i64 (L + (1 : Int))))) (cond (decide (IntKind.wrap IntKind.i64 (x0 - K) < val (L24_16_0 FU x0 x1 0 (1 : Int) x2 x3 x4 x5 x6 x7 x8 x9 A B C D E F G I J K (IntKind.wrap IntKind.i64 (L + (1 : Int)))))) (cX .ret { sl := [(16, .v (.sc (.bool (false))))], lo := [], h := [.box 3 [I4 (K)], .box 3 [I4 (IntKind.wrap IntKind.i64 (L + (1 : Int)))]], n0 := 2, w := true }) (cN { sl := [(2, .v (.sc (I4 (x0)))), (5, .v (.sc (I4 (x1)))), (7, .v (.sc (.ptr 0 0))), (8, .v (.sc (.ptr 1 0))), (9, .l 9 0), (72, .v (.sc (I4 (x2)))), (73, .v (.sc (I4 (IntKind.wrap IntKind.i64 (x3 + (1 : Int))))))], lo := [(9, [I4 (x4), I4 (x5), I4 (x6), I4 (x7), I4 (x8), .d 51 (.list 55 QDy) (x9), I4 (A), I4 (B), I4 (C), I4 (D), I4 (E), I4 (F), I4 (G), I4 (I), .int .u64 (J)])], h := [.box 3 [I4 (K)], .box 3 [I4 (IntKind.wrap IntKind.i64 (L + (1 : Int)))]], n0 := 2, w := false })) none) (cX (.exit 0) { sl := [(2, .v (.sc (I4 (x0)))), (5, .v (.sc (I4 (x1)))), (7, .v (.sc (.ptr 0 0))), (8, .v (.sc (.ptr 1 0))), (9, .l 9 0)], lo := [(9, [I4 (x4), I4 (x5), I4 (x6), I4 (x7), I4 (x8), .d 51 (.list 55 QDy) (x9), I4 (A), I4 (B), I4 (C), I4 (D), I4 (E), I4 (F), I4 (G), I4 (I), .int .u64 (J)])], h := [.box 3 [I4 (K)], .box 3 [I4 (L)]], n0 := 2, w := false })) := by kernel_rfl
theorem lL24_0_0 (k m : Nat) : ∀ (n : Nat) (x0 x1 x2 x3 x4 x5 x6 x7 x8 : Int) (x9 : (List (List (PKt × Int)))) (A B C D E F G I J K L : Int) (r : ((Bool × Int) ⊕ Int)), L24_0_0 n x0 x1 x2 x3 x4 x5 x6 x7 x8 x9 A B C D E F G I J K L = some r → loopE Try.prog (mkTn base o33 t33 24) (TM.evF Try.prog (mkTn base o33 t33) dOk (k + 40)) dOk (k + 40) (codeAt Try.prog (tn0 24) 24 0) 0 0 (n + m) { sl := [(2, .v (.sc (I4 (x0)))), (5, .v (.sc (I4 (x1)))), (7, .v (.sc (.ptr 0 0))), (8, .v (.sc (.ptr 1 0))), (9, .l 9 0), (72, .v (.sc (I4 (x2)))), (73, .v (.sc (I4 (x3))))], lo := [(9, [I4 (x4), I4 (x5), I4 (x6), I4 (x7), I4 (x8), .d 51 (.list 55 QDy) (x9), I4 (A), I4 (B), I4 (C), I4 (D), I4 (E), I4 (F), I4 (G), I4 (I), .int .u64 (J)])], h := [.box 3 [I4 (K)], .box 3 [I4 (L)]], n0 := 2, w := false } = some (xL24_0_0 x0 x1 x2 x3 x4 x5 x6 x7 x8 x9 A B C D E F G I J K L r) := by
 intro n
 induction n with
 | zero => intro _ _ _ _ _ _ _ _ _ _ _ _ _ _ _ _ _ _ _ _ _ r h; cases h
 | succ n ih =>
  intro x0 x1 x2 x3 x4 x5 x6 x7 x8 x9 A B C D E F G I J K L r
  rw [show n + 1 + m = n + m + 1 by omega, loop_step, bL24_0_0, qL24_0_0]
  refine cond_go ?_ ?_
  refine cond_go ?_ ?_
  refine cond_go ?_ ?_
  intro h; cases h; rfl
  exact ih _ _ _ _ _ _ _ _ _ _ _ _ _ _ _ _ _ _ _ _ _ r
  intro h; cases h
  intro h; cases h; rfl
noncomputable def sL24_0_0 : TellS := fun S => dCS 2 S fun y1 y2 y3 => dSI 2 .i64 y1 fun x0 l4 => dSI 5 .i64 l4 fun x1 l5 => dSs 7 l5 fun y7 l6 => dPtr 0 0 y7 <| dSs 8 l6 fun y9 l8 => dPtr 1 0 y9 <| dSt 9 l8 fun y11 l10 => dL 9 0 y11 <| dSI 72 .i64 l10 fun x2 l12 => dSI 73 .i64 l12 fun x3 l13 => dE l13 <| dLo 9 y2 fun y14 l15 => dCI .i64 y14 fun x4 l16 => dCI .i64 l16 fun x5 l17 => dCI .i64 l17 fun x6 l18 => dCI .i64 l18 fun x7 l19 => dCI .i64 l19 fun x8 l20 => dC l20 fun y21 l22 => dD 51 (.list 55 QDy) y21 fun x9 => dCI .i64 l22 fun A l23 => dCI .i64 l23 fun B l24 => dCI .i64 l24 fun C l25 => dCI .i64 l25 fun D l26 => dCI .i64 l26 fun E l27 => dCI .i64 l27 fun F l28 => dCI .i64 l28 fun G l29 => dCI .i64 l29 fun I l30 => dCI .u64 l30 fun J l31 => dE l31 <| dE l15 <| dHB 3 y3 fun y33 l32 => dCI .i64 y33 fun K l34 => dE l34 <| dHB 3 l32 fun y36 l35 => dCI .i64 y36 fun L l37 => dE l37 <| dE l35 <|  some [(isL (L24_0_0 FU x0 x1 x2 x3 x4 x5 x6 x7 x8 x9 A B C D E F G I J K L), .ret, { sl := [(16, .v (.sc (.bool ((getL (L24_0_0 FU x0 x1 x2 x3 x4 x5 x6 x7 x8 x9 A B C D E F G I J K L)).1))))], lo := [], h := [.box 3 [I4 (K)], .box 3 [I4 ((getL (L24_0_0 FU x0 x1 x2 x3 x4 x5 x6 x7 x8 x9 A B C D E F G I J K L)).2)]], n0 := 2, w := true }), (ok (getR (L24_0_0 FU x0 x1 x2 x3 x4 x5 x6 x7 x8 x9 A B C D E F G I J K L)), (.exit 0), { sl := [(2, .v (.sc (I4 (x0)))), (5, .v (.sc (I4 (x1)))), (7, .v (.sc (.ptr 0 0))), (8, .v (.sc (.ptr 1 0))), (9, .l 9 0)], lo := [(9, [I4 (x4), I4 (x5), I4 (x6), I4 (x7), I4 (x8), .d 51 (.list 55 QDy) (x9), I4 (A), I4 (B), I4 (C), I4 (D), I4 (E), I4 (F), I4 (G), I4 (I), .int .u64 (J)])], h := [.box 3 [I4 (K)], .box 3 [I4 ((val (getR (L24_0_0 FU x0 x1 x2 x3 x4 x5 x6 x7 x8 x9 A B C D E F G I J K L))))]], n0 := 2, w := false })]
theorem wL24_0_0 : NewTell Try.prog dOk base o33 t33 ((24, 0), sL24_0_0) := by
 refine ⟨.loop (codeAt Try.prog (tn0 24) 24 0), 0, by kernel_rfl, ?_⟩
 intro S alts e S' h10 h2
 have h1 : sL24_0_0 S = some alts := h10
 clear h10
 unfold sL24_0_0 at h1
 replace h1 := dCS_some h1; obtain ⟨_, _, _, rfl, h1⟩ := h1
 replace h1 := dSI_some h1; obtain ⟨_, _, rfl, h1⟩ := h1
 replace h1 := dSI_some h1; obtain ⟨_, _, rfl, h1⟩ := h1
 replace h1 := dSs_some h1; obtain ⟨_, _, rfl, h1⟩ := h1
 replace h1 := dPtr_some h1; obtain ⟨rfl, h1⟩ := h1
 replace h1 := dSs_some h1; obtain ⟨_, _, rfl, h1⟩ := h1
 replace h1 := dPtr_some h1; obtain ⟨rfl, h1⟩ := h1
 replace h1 := dSt_some h1; obtain ⟨_, _, rfl, h1⟩ := h1
 replace h1 := dL_some h1; obtain ⟨rfl, h1⟩ := h1
 replace h1 := dSI_some h1; obtain ⟨_, _, rfl, h1⟩ := h1
 replace h1 := dSI_some h1; obtain ⟨_, _, rfl, h1⟩ := h1
 replace h1 := dE_some h1; obtain ⟨rfl, h1⟩ := h1
 replace h1 := dLo_some h1; obtain ⟨_, _, rfl, h1⟩ := h1
 replace h1 := dJ5 h1; obtain ⟨_, _, _, _, _, _, rfl, h1⟩ := h1
 replace h1 := dC_some h1; obtain ⟨_, _, rfl, h1⟩ := h1
 replace h1 := dD_some h1; obtain ⟨_, rfl, h1⟩ := h1
 replace h1 := dJ9 h1; obtain ⟨_, _, _, _, _, _, _, _, _, _, rfl, h1⟩ := h1
 replace h1 := dE_some h1; obtain ⟨rfl, h1⟩ := h1
 replace h1 := dE_some h1; obtain ⟨rfl, h1⟩ := h1
 replace h1 := dHB_some h1; obtain ⟨_, _, rfl, h1⟩ := h1
 replace h1 := dCI_some h1; obtain ⟨_, _, rfl, h1⟩ := h1
 replace h1 := dE_some h1; obtain ⟨rfl, h1⟩ := h1
 replace h1 := dHB_some h1; obtain ⟨_, _, rfl, h1⟩ := h1
 replace h1 := dCI_some h1; obtain ⟨_, _, rfl, h1⟩ := h1
 replace h1 := dE_some h1; obtain ⟨rfl, h1⟩ := h1
 replace h1 := dE_some h1; obtain ⟨rfl, h1⟩ := h1
 cases h1
 rcases pick_cons h2 with ⟨hc0, rfl, rfl⟩ | h2
 · exact ⟨FU + 40, (evPiece_loop rfl).trans (lL24_0_0 FU 40 FU _ _ _ _ _ _ _ _ _ _ _ _ _ _ _ _ _ _ _ _ _ _ (isL_val hc0))⟩
 obtain ⟨hc1, rfl, rfl⟩ := pick_one h2
 exact ⟨FU + 40, (evPiece_loop rfl).trans (lL24_0_0 FU 40 FU _ _ _ _ _ _ _ _ _ _ _ _ _ _ _ _ _ _ _ _ _ _ (getR_val (ok_val hc1)))⟩
noncomputable def o34 : OrcT := o33
noncomputable def t34 : TellT := ((24, 0), sL24_0_0) :: t33
noncomputable abbrev tn34 : FuncId → TAn := mkTn base o34 t34
theorem ok34 : TnOk Try.prog tn34 (mkA base) dOk := by
 have h0 : TnOk Try.prog (mkTn base o33 t33) (mkA base) dOk := ok33
 have h1 := tn_tell h0 h0 (p := ((24, 0), sL24_0_0)) wL24_0_0
 exact h1
noncomputable def v24 (x0 x1 x2 x3 x4 : Int) (x5 : (List (List (PKt × Int)))) (x6 x7 x8 x9 A B C D E F : Int) (G : Bool) (I : Int) (J : Bool) (K : Int) (L : Bool) (M N O P Q R : Int) (T : Bool) (U : Bool) (V W X Y x33 x34 : Int) (x35 : (List (List (PKt × Int)))) (x36 x37 x38 x39 x40 x41 x42 x43 x44 x45 x46 : Int) : Option (Bool × Int × Int) := (cond (!G) (some (true, x45, x46)) (cond ((↑(List.length x5) : Int) != (1 : Int)) (cond (V == 0) (cond (!L) (some (true, (-1 : Int), 0)) (some (!U, (-1 : Int), 0))) (some (false, (-1 : Int), 0))) (cond (decide (0 < (↑(List.length x5) : Int))) (cond ((↑(List.length (List.getD x5 (Int.toNat 0) [])) : Int) == 0) (cond (V == 0) (cond (!L) (some (true, (-1 : Int), 0)) (some (!U, (-1 : Int), 0))) (some (false, (-1 : Int), 0))) (cond (decide (0 < (↑(List.length (List.getD x5 (Int.toNat 0) [])) : Int))) (cond (decide (IntKind.wrap IntKind.i64 (K - (List.getD (List.getD x5 (Int.toNat 0) []) (Int.toNat 0) (PKz, (0 : Int))).2) < x1)) (cond (V == 0) (cond (!L) (some (true, (-1 : Int), 0)) (some (!U, (-1 : Int), 0))) (some (false, (-1 : Int), 0))) (cond (decide (x45 < 0)) (cond (L) (cond (U) (cond (isL (L24_0_0 FU K V (IntKind.wrap IntKind.i64 (V + (1 : Int))) 0 x0 x1 x2 x3 x4 x5 x6 x7 x8 x9 A B C D E K x46)) (some ((getL (L24_0_0 FU K V (IntKind.wrap IntKind.i64 (V + (1 : Int))) 0 x0 x1 x2 x3 x4 x5 x6 x7 x8 x9 A B C D E K x46)).1, K, (getL (L24_0_0 FU K V (IntKind.wrap IntKind.i64 (V + (1 : Int))) 0 x0 x1 x2 x3 x4 x5 x6 x7 x8 x9 A B C D E K x46)).2)) (cond (ok (getR (L24_0_0 FU K V (IntKind.wrap IntKind.i64 (V + (1 : Int))) 0 x0 x1 x2 x3 x4 x5 x6 x7 x8 x9 A B C D E K x46))) (cond (decide (V ≥ (↑(List.length (List.getD x5 (Int.toNat 0) [])) : Int))) (some (true, (-1 : Int), 0)) (cond (decide (0 ≤ V)) (cond (decide (V < (↑(List.length (List.getD x5 (Int.toNat 0) [])) : Int))) (cond (decide (IntKind.wrap IntKind.i64 (K - (List.getD (List.getD x5 (Int.toNat 0) []) V.toNat (PKz, (0 : Int))).2) < x1)) (some (true, (-1 : Int), 0)) (some (true, K, val (getR (L24_0_0 FU K V (IntKind.wrap IntKind.i64 (V + (1 : Int))) 0 x0 x1 x2 x3 x4 x5 x6 x7 x8 x9 A B C D E K x46))))) none) none)) none)) (cond (isL (L24_0_0 FU K V V 0 x0 x1 x2 x3 x4 x5 x6 x7 x8 x9 A B C D E K x46)) (some ((getL (L24_0_0 FU K V V 0 x0 x1 x2 x3 x4 x5 x6 x7 x8 x9 A B C D E K x46)).1, K, (getL (L24_0_0 FU K V V 0 x0 x1 x2 x3 x4 x5 x6 x7 x8 x9 A B C D E K x46)).2)) (cond (ok (getR (L24_0_0 FU K V V 0 x0 x1 x2 x3 x4 x5 x6 x7 x8 x9 A B C D E K x46))) (cond (decide (V ≥ (↑(List.length (List.getD x5 (Int.toNat 0) [])) : Int))) (some (true, (-1 : Int), 0)) (cond (decide (0 ≤ V)) (cond (decide (V < (↑(List.length (List.getD x5 (Int.toNat 0) [])) : Int))) (cond (decide (IntKind.wrap IntKind.i64 (K - (List.getD (List.getD x5 (Int.toNat 0) []) V.toNat (PKz, (0 : Int))).2) < x1)) (some (true, (-1 : Int), 0)) (some (true, K, val (getR (L24_0_0 FU K V V 0 x0 x1 x2 x3 x4 x5 x6 x7 x8 x9 A B C D E K x46))))) none) none)) none))) (cond (isL (L24_0_0 FU K V V 0 x0 x1 x2 x3 x4 x5 x6 x7 x8 x9 A B C D E K x46)) (some ((getL (L24_0_0 FU K V V 0 x0 x1 x2 x3 x4 x5 x6 x7 x8 x9 A B C D E K x46)).1, K, (getL (L24_0_0 FU K V V 0 x0 x1 x2 x3 x4 x5 x6 x7 x8 x9 A B C D E K x46)).2)) (cond (ok (getR (L24_0_0 FU K V V 0 x0 x1 x2 x3 x4 x5 x6 x7 x8 x9 A B C D E K x46))) (cond (decide (V ≥ (↑(List.length (List.getD x5 (Int.toNat 0) [])) : Int))) (some (true, (-1 : Int), 0)) (cond (decide (0 ≤ V)) (cond (decide (V < (↑(List.length (List.getD x5 (Int.toNat 0) [])) : Int))) (cond (decide (IntKind.wrap IntKind.i64 (K - (List.getD (List.getD x5 (Int.toNat 0) []) V.toNat (PKz, (0 : Int))).2) < x1)) (some (true, (-1 : Int), 0)) (some (true, K, val (getR (L24_0_0 FU K V V 0 x0 x1 x2 x3 x4 x5 x6 x7 x8 x9 A B C D E K x46))))) none) none)) none))) (cond (L) (cond (U) (cond (isL (L24_0_0 FU K V (IntKind.wrap IntKind.i64 (V + (1 : Int))) 0 x0 x1 x2 x3 x4 x5 x6 x7 x8 x9 A B C D E x45 x46)) (some ((getL (L24_0_0 FU K V (IntKind.wrap IntKind.i64 (V + (1 : Int))) 0 x0 x1 x2 x3 x4 x5 x6 x7 x8 x9 A B C D E x45 x46)).1, x45, (getL (L24_0_0 FU K V (IntKind.wrap IntKind.i64 (V + (1 : Int))) 0 x0 x1 x2 x3 x4 x5 x6 x7 x8 x9 A B C D E x45 x46)).2)) (cond (ok (getR (L24_0_0 FU K V (IntKind.wrap IntKind.i64 (V + (1 : Int))) 0 x0 x1 x2 x3 x4 x5 x6 x7 x8 x9 A B C D E x45 x46))) (cond (decide (V ≥ (↑(List.length (List.getD x5 (Int.toNat 0) [])) : Int))) (some (true, (-1 : Int), 0)) (cond (decide (0 ≤ V)) (cond (decide (V < (↑(List.length (List.getD x5 (Int.toNat 0) [])) : Int))) (cond (decide (IntKind.wrap IntKind.i64 (K - (List.getD (List.getD x5 (Int.toNat 0) []) V.toNat (PKz, (0 : Int))).2) < x1)) (some (true, (-1 : Int), 0)) (some (true, x45, val (getR (L24_0_0 FU K V (IntKind.wrap IntKind.i64 (V + (1 : Int))) 0 x0 x1 x2 x3 x4 x5 x6 x7 x8 x9 A B C D E x45 x46))))) none) none)) none)) (cond (isL (L24_0_0 FU K V V 0 x0 x1 x2 x3 x4 x5 x6 x7 x8 x9 A B C D E x45 x46)) (some ((getL (L24_0_0 FU K V V 0 x0 x1 x2 x3 x4 x5 x6 x7 x8 x9 A B C D E x45 x46)).1, x45, (getL (L24_0_0 FU K V V 0 x0 x1 x2 x3 x4 x5 x6 x7 x8 x9 A B C D E x45 x46)).2)) (cond (ok (getR (L24_0_0 FU K V V 0 x0 x1 x2 x3 x4 x5 x6 x7 x8 x9 A B C D E x45 x46))) (cond (decide (V ≥ (↑(List.length (List.getD x5 (Int.toNat 0) [])) : Int))) (some (true, (-1 : Int), 0)) (cond (decide (0 ≤ V)) (cond (decide (V < (↑(List.length (List.getD x5 (Int.toNat 0) [])) : Int))) (cond (decide (IntKind.wrap IntKind.i64 (K - (List.getD (List.getD x5 (Int.toNat 0) []) V.toNat (PKz, (0 : Int))).2) < x1)) (some (true, (-1 : Int), 0)) (some (true, x45, val (getR (L24_0_0 FU K V V 0 x0 x1 x2 x3 x4 x5 x6 x7 x8 x9 A B C D E x45 x46))))) none) none)) none))) (cond (isL (L24_0_0 FU K V V 0 x0 x1 x2 x3 x4 x5 x6 x7 x8 x9 A B C D E x45 x46)) (some ((getL (L24_0_0 FU K V V 0 x0 x1 x2 x3 x4 x5 x6 x7 x8 x9 A B C D E x45 x46)).1, x45, (getL (L24_0_0 FU K V V 0 x0 x1 x2 x3 x4 x5 x6 x7 x8 x9 A B C D E x45 x46)).2)) (cond (ok (getR (L24_0_0 FU K V V 0 x0 x1 x2 x3 x4 x5 x6 x7 x8 x9 A B C D E x45 x46))) (cond (decide (V ≥ (↑(List.length (List.getD x5 (Int.toNat 0) [])) : Int))) (some (true, (-1 : Int), 0)) (cond (decide (0 ≤ V)) (cond (decide (V < (↑(List.length (List.getD x5 (Int.toNat 0) [])) : Int))) (cond (decide (IntKind.wrap IntKind.i64 (K - (List.getD (List.getD x5 (Int.toNat 0) []) V.toNat (PKz, (0 : Int))).2) < x1)) (some (true, (-1 : Int), 0)) (some (true, x45, val (getR (L24_0_0 FU K V V 0 x0 x1 x2 x3 x4 x5 x6 x7 x8 x9 A B C D E x45 x46))))) none) none)) none))))) none)) none)))
theorem ev24 (x0 x1 x2 x3 x4 : Int) (x5 : (List (List (PKt × Int)))) (x6 x7 x8 x9 A B C D E F : Int) (G : Bool) (I : Int) (J : Bool) (K : Int) (L : Bool) (M N O P Q R : Int) (T : Bool) (U : Bool) (V W X Y x33 x34 : Int) (x35 : (List (List (PKt × Int)))) (x36 x37 x38 x39 x40 x41 x42 x43 x44 x45 x46 : Int) : fnBody Try.prog (mkTn base o34 t34 24) (TM.evF Try.prog (mkTn base o34 t34) dOk 40) dOk 40 24 [.agg [I4 (x0), I4 (x1), I4 (x2), I4 (x3), I4 (x4), .d 51 (.list 55 QDy) (x5), I4 (x6), I4 (x7), I4 (x8), I4 (x9), I4 (A), I4 (B), I4 (C), I4 (D), .int .u64 (E)], .agg [.int .u16 (F), .bool (G), .int .u8 (I), .bool (J)], .sc (I4 (K)), .sc (.bool (L)), .agg [I4 (M), I4 (N), I4 (O), I4 (P), I4 (Q), I4 (R), .bool (T), .bool (U)], .sc (I4 (V)), .agg [I4 (W), I4 (X), I4 (Y), I4 (x33), I4 (x34), .d 51 (.list 55 QDy) (x35), I4 (x36), I4 (x37), I4 (x38), I4 (x39), I4 (x40), I4 (x41), I4 (x42), I4 (x43), .int .u64 (x44)], .sc (.ptr 0 0), .sc (.ptr 1 0)] [.box 3 [I4 (x45)], .box 3 [I4 (x46)]] = (v24 x0 x1 x2 x3 x4 x5 x6 x7 x8 x9 A B C D E F G I J K L M N O P Q R T U V W X Y x33 x34 x35 x36 x37 x38 x39 x40 x41 x42 x43 x44 x45 x46).bind fun r => some ([.sc (.bool (r.1))], [.box 3 [I4 (r.2.1)], .box 3 [I4 (r.2.2)]]) := by
 refine Eq.trans (b := (cond (!G) (some ([.sc (.bool (true))], [.box 3 [I4 (x45)], .box 3 [I4 (x46)]])) (cond ((↑(List.length x5) : Int) != (1 : Int)) (cond (V == 0) (cond (!L) (some ([.sc (.bool (true))], [.box 3 [I4 ((-1 : Int))], .box 3 [I4 (0)]])) (some ([.sc (.bool (!U))], [.box 3 [I4 ((-1 : Int))], .box 3 [I4 (0)]]))) (some ([.sc (.bool (false))], [.box 3 [I4 ((-1 : Int))], .box 3 [I4 (0)]]))) (cond (decide (0 < (↑(List.length x5) : Int))) (cond ((↑(List.length (List.getD x5 (Int.toNat 0) [])) : Int) == 0) (cond (V == 0) (cond (!L) (some ([.sc (.bool (true))], [.box 3 [I4 ((-1 : Int))], .box 3 [I4 (0)]])) (some ([.sc (.bool (!U))], [.box 3 [I4 ((-1 : Int))], .box 3 [I4 (0)]]))) (some ([.sc (.bool (false))], [.box 3 [I4 ((-1 : Int))], .box 3 [I4 (0)]]))) (cond (decide (0 < (↑(List.length x5) : Int))) (cond (decide (0 < (↑(List.length (List.getD x5 (Int.toNat 0) [])) : Int))) (cond (decide (IntKind.wrap IntKind.i64 (K - (List.getD (List.getD x5 (Int.toNat 0) []) (Int.toNat 0) (PKz, (0 : Int))).2) < x1)) (cond (V == 0) (cond (!L) (some ([.sc (.bool (true))], [.box 3 [I4 ((-1 : Int))], .box 3 [I4 (0)]])) (some ([.sc (.bool (!U))], [.box 3 [I4 ((-1 : Int))], .box 3 [I4 (0)]]))) (some ([.sc (.bool (false))], [.box 3 [I4 ((-1 : Int))], .box 3 [I4 (0)]]))) (cond (decide (x45 < 0)) (cond (L) (cond (U) (cond (isL (L24_0_0 FU K V (IntKind.wrap IntKind.i64 (V + (1 : Int))) 0 x0 x1 x2 x3 x4 x5 x6 x7 x8 x9 A B C D E K x46)) (some ([.sc (.bool (getL (L24_0_0 FU K V (IntKind.wrap IntKind.i64 (V + (1 : Int))) 0 x0 x1 x2 x3 x4 x5 x6 x7 x8 x9 A B C D E K x46)).1)], [.box 3 [I4 (K)], .box 3 [I4 (getL (L24_0_0 FU K V (IntKind.wrap IntKind.i64 (V + (1 : Int))) 0 x0 x1 x2 x3 x4 x5 x6 x7 x8 x9 A B C D E K x46)).2]])) (cond (ok (getR (L24_0_0 FU K V (IntKind.wrap IntKind.i64 (V + (1 : Int))) 0 x0 x1 x2 x3 x4 x5 x6 x7 x8 x9 A B C D E K x46))) (cond (decide (0 < (↑(List.length x5) : Int))) (cond (decide (V ≥ (↑(List.length (List.getD x5 (Int.toNat 0) [])) : Int))) (some ([.sc (.bool (true))], [.box 3 [I4 ((-1 : Int))], .box 3 [I4 (0)]])) (cond (decide (0 < (↑(List.length x5) : Int))) (cond (decide (0 ≤ V)) (cond (decide (V < (↑(List.length (List.getD x5 (Int.toNat 0) [])) : Int))) (cond (decide (IntKind.wrap IntKind.i64 (K - (List.getD (List.getD x5 (Int.toNat 0) []) V.toNat (PKz, (0 : Int))).2) < x1)) (some ([.sc (.bool (true))], [.box 3 [I4 ((-1 : Int))], .box 3 [I4 (0)]])) (some ([.sc (.bool (true))], [.box 3 [I4 (K)], .box 3 [I4 (val (getR (L24_0_0 FU K V (IntKind.wrap IntKind.i64 (V + (1 : Int))) 0 x0 x1 x2 x3 x4 x5 x6 x7 x8 x9 A B C D E K x46)))]]))) none) none) none)) none) none)) (cond (isL (L24_0_0 FU K V V 0 x0 x1 x2 x3 x4 x5 x6 x7 x8 x9 A B C D E K x46)) (some ([.sc (.bool (getL (L24_0_0 FU K V V 0 x0 x1 x2 x3 x4 x5 x6 x7 x8 x9 A B C D E K x46)).1)], [.box 3 [I4 (K)], .box 3 [I4 (getL (L24_0_0 FU K V V 0 x0 x1 x2 x3 x4 x5 x6 x7 x8 x9 A B C D E K x46)).2]])) (cond (ok (getR (L24_0_0 FU K V V 0 x0 x1 x2 x3 x4 x5 x6 x7 x8 x9 A B C D E K x46))) (cond (decide (0 < (↑(List.length x5) : Int))) (cond (decide (V ≥ (↑(List.length (List.getD x5 (Int.toNat 0) [])) : Int))) (some ([.sc (.bool (true))], [.box 3 [I4 ((-1 : Int))], .box 3 [I4 (0)]])) (cond (decide (0 < (↑(List.length x5) : Int))) (cond (decide (0 ≤ V)) (cond (decide (V < (↑(List.length (List.getD x5 (Int.toNat 0) [])) : Int))) (cond (decide (IntKind.wrap IntKind.i64 (K - (List.getD (List.getD x5 (Int.toNat 0) []) V.toNat (PKz, (0 : Int))).2) < x1)) (some ([.sc (.bool (true))], [.box 3 [I4 ((-1 : Int))], .box 3 [I4 (0)]])) (some ([.sc (.bool (true))], [.box 3 [I4 (K)], .box 3 [I4 (val (getR (L24_0_0 FU K V V 0 x0 x1 x2 x3 x4 x5 x6 x7 x8 x9 A B C D E K x46)))]]))) none) none) none)) none) none))) (cond (isL (L24_0_0 FU K V V 0 x0 x1 x2 x3 x4 x5 x6 x7 x8 x9 A B C D E K x46)) (some ([.sc (.bool (getL (L24_0_0 FU K V V 0 x0 x1 x2 x3 x4 x5 x6 x7 x8 x9 A B C D E K x46)).1)], [.box 3 [I4 (K)], .box 3 [I4 (getL (L24_0_0 FU K V V 0 x0 x1 x2 x3 x4 x5 x6 x7 x8 x9 A B C D E K x46)).2]])) (cond (ok (getR (L24_0_0 FU K V V 0 x0 x1 x2 x3 x4 x5 x6 x7 x8 x9 A B C D E K x46))) (cond (decide (0 < (↑(List.length x5) : Int))) (cond (decide (V ≥ (↑(List.length (List.getD x5 (Int.toNat 0) [])) : Int))) (some ([.sc (.bool (true))], [.box 3 [I4 ((-1 : Int))], .box 3 [I4 (0)]])) (cond (decide (0 < (↑(List.length x5) : Int))) (cond (decide (0 ≤ V)) (cond (decide (V < (↑(List.length (List.getD x5 (Int.toNat 0) [])) : Int))) (cond (decide (IntKind.wrap IntKind.i64 (K - (List.getD (List.getD x5 (Int.toNat 0) []) V.toNat (PKz, (0 : Int))).2) < x1)) (some ([.sc (.bool (true))], [.box 3 [I4 ((-1 : Int))], .box 3 [I4 (0)]])) (some ([.sc (.bool (true))], [.box 3 [I4 (K)], .box 3 [I4 (val (getR (L24_0_0 FU K V V 0 x0 x1 x2 x3 x4 x5 x6 x7 x8 x9 A B C D E K x46)))]]))) none) none) none)) none) none))) (cond (L) (cond (U) (cond (isL (L24_0_0 FU K V (IntKind.wrap IntKind.i64 (V + (1 : Int))) 0 x0 x1 x2 x3 x4 x5 x6 x7 x8 x9 A B C D E x45 x46)) (some ([.sc (.bool (getL (L24_0_0 FU K V (IntKind.wrap IntKind.i64 (V + (1 : Int))) 0 x0 x1 x2 x3 x4 x5 x6 x7 x8 x9 A B C D E x45 x46)).1)], [.box 3 [I4 (x45)], .box 3 [I4 (getL (L24_0_0 FU K V (IntKind.wrap IntKind.i64 (V + (1 : Int))) 0 x0 x1 x2 x3 x4 x5 x6 x7 x8 x9 A B C D E x45 x46)).2]])) (cond (ok (getR (L24_0_0 FU K V (IntKind.wrap IntKind.i64 (V + (1 : Int))) 0 x0 x1 x2 x3 x4 x5 x6 x7 x8 x9 A B C D E x45 x46))) (cond (decide (0 < (↑(List.length x5) : Int))) (cond (decide (V ≥ (↑(List.length (List.getD x5 (Int.toNat 0) [])) : Int))) (some ([.sc (.bool (true))], [.box 3 [I4 ((-1 : Int))], .box 3 [I4 (0)]])) (cond (decide (0 < (↑(List.length x5) : Int))) (cond (decide (0 ≤ V)) (cond (decide (V < (↑(List.length (List.getD x5 (Int.toNat 0) [])) : Int))) (cond (decide (IntKind.wrap IntKind.i64 (K - (List.getD (List.getD x5 (Int.toNat 0) []) V.toNat (PKz, (0 : Int))).2) < x1)) (some ([.sc (.bool (true))], [.box 3 [I4 ((-1 : Int))], .box 3 [I4 (0)]])) (some ([.sc (.bool (true))], [.box 3 [I4 (x45)], .box 3 [I4 (val (getR (L24_0_0 FU K V (IntKind.wrap IntKind.i64 (V + (1 : Int))) 0 x0 x1 x2 x3 x4 x5 x6 x7 x8 x9 A B C D E x45 x46)))]]))) none) none) none)) none) none)) (cond (isL (L24_0_0 FU K V V 0 x0 x1 x2 x3 x4 x5 x6 x7 x8 x9 A B C D E x45 x46)) (some ([.sc (.bool (getL (L24_0_0 FU K V V 0 x0 x1 x2 x3 x4 x5 x6 x7 x8 x9 A B C D E x45 x46)).1)], [.box 3 [I4 (x45)], .box 3 [I4 (getL (L24_0_0 FU K V V 0 x0 x1 x2 x3 x4 x5 x6 x7 x8 x9 A B C D E x45 x46)).2]])) (cond (ok (getR (L24_0_0 FU K V V 0 x0 x1 x2 x3 x4 x5 x6 x7 x8 x9 A B C D E x45 x46))) (cond (decide (0 < (↑(List.length x5) : Int))) (cond (decide (V ≥ (↑(List.length (List.getD x5 (Int.toNat 0) [])) : Int))) (some ([.sc (.bool (true))], [.box 3 [I4 ((-1 : Int))], .box 3 [I4 (0)]])) (cond (decide (0 < (↑(List.length x5) : Int))) (cond (decide (0 ≤ V)) (cond (decide (V < (↑(List.length (List.getD x5 (Int.toNat 0) [])) : Int))) (cond (decide (IntKind.wrap IntKind.i64 (K - (List.getD (List.getD x5 (Int.toNat 0) []) V.toNat (PKz, (0 : Int))).2) < x1)) (some ([.sc (.bool (true))], [.box 3 [I4 ((-1 : Int))], .box 3 [I4 (0)]])) (some ([.sc (.bool (true))], [.box 3 [I4 (x45)], .box 3 [I4 (val (getR (L24_0_0 FU K V V 0 x0 x1 x2 x3 x4 x5 x6 x7 x8 x9 A B C D E x45 x46)))]]))) none) none) none)) none) none))) (cond (isL (L24_0_0 FU K V V 0 x0 x1 x2 x3 x4 x5 x6 x7 x8 x9 A B C D E x45 x46)) (some ([.sc (.bool (getL (L24_0_0 FU K V V 0 x0 x1 x2 x3 x4 x5 x6 x7 x8 x9 A B C D E x45 x46)).1)], [.box 3 [I4 (x45)], .box 3 [I4 (getL (L24_0_0 FU K V V 0 x0 x1 x2 x3 x4 x5 x6 x7 x8 x9 A B C D E x45 x46)).2]])) (cond (ok (getR (L24_0_0 FU K V V 0 x0 x1 x2 x3 x4 x5 x6 x7 x8 x9 A B C D E x45 x46))) (cond (decide (0 < (↑(List.length x5) : Int))) (cond (decide (V ≥ (↑(List.length (List.getD x5 (Int.toNat 0) [])) : Int))) (some ([.sc (.bool (true))], [.box 3 [I4 ((-1 : Int))], .box 3 [I4 (0)]])) (cond (decide (0 < (↑(List.length x5) : Int))) (cond (decide (0 ≤ V)) (cond (decide (V < (↑(List.length (List.getD x5 (Int.toNat 0) [])) : Int))) (cond (decide (IntKind.wrap IntKind.i64 (K - (List.getD (List.getD x5 (Int.toNat 0) []) V.toNat (PKz, (0 : Int))).2) < x1)) (some ([.sc (.bool (true))], [.box 3 [I4 ((-1 : Int))], .box 3 [I4 (0)]])) (some ([.sc (.bool (true))], [.box 3 [I4 (x45)], .box 3 [I4 (val (getR (L24_0_0 FU K V V 0 x0 x1 x2 x3 x4 x5 x6 x7 x8 x9 A B C D E x45 x46)))]]))) none) none) none)) none) none))))) none) none)) none)))) (by kernel_rfl) ?_
 unfold v24
 cases (!G) with
 | true =>
  rfl
 | false =>
  cases ((↑(List.length x5) : Int) != (1 : Int)) with
  | true =>
   cases (V == 0) with
   | true =>
    cases (!L) with
    | true =>
     rfl
    | false =>
     rfl
   | false =>
    rfl
  | false =>
   cases (decide (0 < (↑(List.length x5) : Int))) with
   | true =>
    cases ((↑(List.length (List.getD x5 (Int.toNat 0) [])) : Int) == 0) with
    | true =>
     cases (V == 0) with
     | true =>
      cases (!L) with
      | true =>
       rfl
      | false =>
       rfl
     | false =>
      rfl
    | false =>
     cases (decide (0 < (↑(List.length (List.getD x5 (Int.toNat 0) [])) : Int))) with
     | true =>
      cases (decide (IntKind.wrap IntKind.i64 (K - (List.getD (List.getD x5 (Int.toNat 0) []) (Int.toNat 0) (PKz, (0 : Int))).2) < x1)) with
      | true =>
       cases (V == 0) with
       | true =>
        cases (!L) with
        | true =>
         rfl
        | false =>
         rfl
       | false =>
        rfl
      | false =>
       cases (decide (x45 < 0)) with
       | true =>
        cases L with
        | true =>
         cases U with
         | true =>
          cases (isL (L24_0_0 FU K V (IntKind.wrap IntKind.i64 (V + (1 : Int))) 0 x0 x1 x2 x3 x4 x5 x6 x7 x8 x9 A B C D E K x46)) with
          | true =>
           rfl
          | false =>
           cases (ok (getR (L24_0_0 FU K V (IntKind.wrap IntKind.i64 (V + (1 : Int))) 0 x0 x1 x2 x3 x4 x5 x6 x7 x8 x9 A B C D E K x46))) with
           | true =>
            cases (decide (V ≥ (↑(List.length (List.getD x5 (Int.toNat 0) [])) : Int))) with
            | true =>
             rfl
            | false =>
             cases (decide (0 ≤ V)) with
             | true =>
              cases (decide (V < (↑(List.length (List.getD x5 (Int.toNat 0) [])) : Int))) with
              | true =>
               cases (decide (IntKind.wrap IntKind.i64 (K - (List.getD (List.getD x5 (Int.toNat 0) []) V.toNat (PKz, (0 : Int))).2) < x1)) with
               | true =>
                rfl
               | false =>
                rfl
              | false =>
               rfl
             | false =>
              rfl
           | false =>
            rfl
         | false =>
          cases (isL (L24_0_0 FU K V V 0 x0 x1 x2 x3 x4 x5 x6 x7 x8 x9 A B C D E K x46)) with
          | true =>
           rfl
          | false =>
           cases (ok (getR (L24_0_0 FU K V V 0 x0 x1 x2 x3 x4 x5 x6 x7 x8 x9 A B C D E K x46))) with
           | true =>
            cases (decide (V ≥ (↑(List.length (List.getD x5 (Int.toNat 0) [])) : Int))) with
            | true =>
             rfl
            | false =>
             cases (decide (0 ≤ V)) with
             | true =>
              cases (decide (V < (↑(List.length (List.getD x5 (Int.toNat 0) [])) : Int))) with
              | true =>
               cases (decide (IntKind.wrap IntKind.i64 (K - (List.getD (List.getD x5 (Int.toNat 0) []) V.toNat (PKz, (0 : Int))).2) < x1)) with
               | true =>
                rfl
               | false =>
                rfl
              | false =>
               rfl
             | false =>
              rfl
           | false =>
            rfl
        | false =>
         cases (isL (L24_0_0 FU K V V 0 x0 x1 x2 x3 x4 x5 x6 x7 x8 x9 A B C D E K x46)) with
         | true =>
          rfl
         | false =>
          cases (ok (getR (L24_0_0 FU K V V 0 x0 x1 x2 x3 x4 x5 x6 x7 x8 x9 A B C D E K x46))) with
          | true =>
           cases (decide (V ≥ (↑(List.length (List.getD x5 (Int.toNat 0) [])) : Int))) with
           | true =>
            rfl
           | false =>
            cases (decide (0 ≤ V)) with
            | true =>
             cases (decide (V < (↑(List.length (List.getD x5 (Int.toNat 0) [])) : Int))) with
             | true =>
              cases (decide (IntKind.wrap IntKind.i64 (K - (List.getD (List.getD x5 (Int.toNat 0) []) V.toNat (PKz, (0 : Int))).2) < x1)) with
              | true =>
               rfl
              | false =>
               rfl
             | false =>
              rfl
            | false =>
             rfl
          | false =>
           rfl
       | false =>
        cases L with
        | true =>
         cases U with
         | true =>
          cases (isL (L24_0_0 FU K V (IntKind.wrap IntKind.i64 (V + (1 : Int))) 0 x0 x1 x2 x3 x4 x5 x6 x7 x8 x9 A B C D E x45 x46)) with
          | true =>
           rfl
          | false =>
           cases (ok (getR (L24_0_0 FU K V (IntKind.wrap IntKind.i64 (V + (1 : Int))) 0 x0 x1 x2 x3 x4 x5 x6 x7 x8 x9 A B C D E x45 x46))) with
           | true =>
            cases (decide (V ≥ (↑(List.length (List.getD x5 (Int.toNat 0) [])) : Int))) with
            | true =>
             rfl
            | false =>
             cases (decide (0 ≤ V)) with
             | true =>
              cases (decide (V < (↑(List.length (List.getD x5 (Int.toNat 0) [])) : Int))) with
              | true =>
               cases (decide (IntKind.wrap IntKind.i64 (K - (List.getD (List.getD x5 (Int.toNat 0) []) V.toNat (PKz, (0 : Int))).2) < x1)) with
               | true =>
                rfl
               | false =>
                rfl
              | false =>
               rfl
             | false =>
              rfl
           | false =>
            rfl
         | false =>
          cases (isL (L24_0_0 FU K V V 0 x0 x1 x2 x3 x4 x5 x6 x7 x8 x9 A B C D E x45 x46)) with
          | true =>
           rfl
          | false =>
           cases (ok (getR (L24_0_0 FU K V V 0 x0 x1 x2 x3 x4 x5 x6 x7 x8 x9 A B C D E x45 x46))) with
           | true =>
            cases (decide (V ≥ (↑(List.length (List.getD x5 (Int.toNat 0) [])) : Int))) with
            | true =>
             rfl
            | false =>
             cases (decide (0 ≤ V)) with
             | true =>
              cases (decide (V < (↑(List.length (List.getD x5 (Int.toNat 0) [])) : Int))) with
              | true =>
               cases (decide (IntKind.wrap IntKind.i64 (K - (List.getD (List.getD x5 (Int.toNat 0) []) V.toNat (PKz, (0 : Int))).2) < x1)) with
               | true =>
                rfl
               | false =>
                rfl
              | false =>
               rfl
             | false =>
              rfl
           | false =>
            rfl
        | false =>
         cases (isL (L24_0_0 FU K V V 0 x0 x1 x2 x3 x4 x5 x6 x7 x8 x9 A B C D E x45 x46)) with
         | true =>
          rfl
         | false =>
          cases (ok (getR (L24_0_0 FU K V V 0 x0 x1 x2 x3 x4 x5 x6 x7 x8 x9 A B C D E x45 x46))) with
          | true =>
           cases (decide (V ≥ (↑(List.length (List.getD x5 (Int.toNat 0) [])) : Int))) with
           | true =>
            rfl
           | false =>
            cases (decide (0 ≤ V)) with
            | true =>
             cases (decide (V < (↑(List.length (List.getD x5 (Int.toNat 0) [])) : Int))) with
             | true =>
              cases (decide (IntKind.wrap IntKind.i64 (K - (List.getD (List.getD x5 (Int.toNat 0) []) V.toNat (PKz, (0 : Int))).2) < x1)) with
              | true =>
               rfl
              | false =>
               rfl
             | false =>
              rfl
            | false =>
             rfl
          | false =>
           rfl
     | false =>
      rfl
   | false =>
    rfl
noncomputable def sv24 : OrcS := fun al H => dC al fun y1 l2 => dA y1 fun y3 => dCI .i64 y3 fun x0 l4 => dCI .i64 l4 fun x1 l5 => dCI .i64 l5 fun x2 l6 => dCI .i64 l6 fun x3 l7 => dCI .i64 l7 fun x4 l8 => dC l8 fun y9 l10 => dD 51 (.list 55 QDy) y9 fun x5 => dCI .i64 l10 fun x6 l11 => dCI .i64 l11 fun x7 l12 => dCI .i64 l12 fun x8 l13 => dCI .i64 l13 fun x9 l14 => dCI .i64 l14 fun A l15 => dCI .i64 l15 fun B l16 => dCI .i64 l16 fun C l17 => dCI .i64 l17 fun D l18 => dCI .u64 l18 fun E l19 => dE l19 <| dC l2 fun y20 l21 => dA y20 fun y22 => dCI .u16 y22 fun F l23 => dC l23 fun y24 l25 => dBool y24 fun G => dCI .u8 l25 fun I l26 => dC l26 fun y27 l28 => dBool y27 fun J => dE l28 <| dC l21 fun y29 l30 => dS y29 fun y31 => dInt .i64 y31 fun K => dC l30 fun y32 l33 => dS y32 fun y34 => dBool y34 fun L => dC l33 fun y35 l36 => dA y35 fun y37 => dCI .i64 y37 fun M l38 => dCI .i64 l38 fun N l39 => dCI .i64 l39 fun O l40 => dCI .i64 l40 fun P l41 => dCI .i64 l41 fun Q l42 => dCI .i64 l42 fun R l43 => dC l43 fun y44 l45 => dBool y44 fun T => dC l45 fun y46 l47 => dBool y46 fun U => dE l47 <| dC l36 fun y48 l49 => dS y48 fun y50 => dInt .i64 y50 fun V => dC l49 fun y51 l52 => dA y51 fun y53 => dCI .i64 y53 fun W l54 => dCI .i64 l54 fun X l55 => dCI .i64 l55 fun Y l56 => dCI .i64 l56 fun x33 l57 => dCI .i64 l57 fun x34 l58 => dC l58 fun y59 l60 => dD 51 (.list 55 QDy) y59 fun x35 => dCI .i64 l60 fun x36 l61 => dCI .i64 l61 fun x37 l62 => dCI .i64 l62 fun x38 l63 => dCI .i64 l63 fun x39 l64 => dCI .i64 l64 fun x40 l65 => dCI .i64 l65 fun x41 l66 => dCI .i64 l66 fun x42 l67 => dCI .i64 l67 fun x43 l68 => dCI .u64 l68 fun x44 l69 => dE l69 <| dC l52 fun y70 l71 => dS y70 fun y72 => dPtr 0 0 y72 <| dC l71 fun y73 l74 => dS y73 fun y75 => dPtr 1 0 y75 <| dE l74 <| dHB 3 H fun y77 l76 => dCI .i64 y77 fun x45 l78 => dE l78 <| dHB 3 l76 fun y80 l79 => dCI .i64 y80 fun x46 l81 => dE l81 <| dE l79 <|  some [(ok (v24 x0 x1 x2 x3 x4 x5 x6 x7 x8 x9 A B C D E F G I J K L M N O P Q R T U V W X Y x33 x34 x35 x36 x37 x38 x39 x40 x41 x42 x43 x44 x45 x46), [.sc (.bool ((val (v24 x0 x1 x2 x3 x4 x5 x6 x7 x8 x9 A B C D E F G I J K L M N O P Q R T U V W X Y x33 x34 x35 x36 x37 x38 x39 x40 x41 x42 x43 x44 x45 x46)).1))], [.box 3 [I4 ((val (v24 x0 x1 x2 x3 x4 x5 x6 x7 x8 x9 A B C D E F G I J K L M N O P Q R T U V W X Y x33 x34 x35 x36 x37 x38 x39 x40 x41 x42 x43 x44 x45 x46)).2.1)], .box 3 [I4 ((val (v24 x0 x1 x2 x3 x4 x5 x6 x7 x8 x9 A B C D E F G I J K L M N O P Q R T U V W X Y x33 x34 x35 x36 x37 x38 x39 x40 x41 x42 x43 x44 x45 x46)).2.2)]])]
theorem wv24 : NewOrc Try.prog dOk base o34 t34 (24, sv24) := by
 intro al H q hq0 rs H2 h2
 have hq : sv24 al H = some q := hq0
 clear hq0
 unfold sv24 at hq
 replace hq := dC_some hq; obtain ⟨_, _, rfl, hq⟩ := hq
 replace hq := dA_some hq; obtain ⟨_, rfl, hq⟩ := hq
 replace hq := dJ5 hq; obtain ⟨_, _, _, _, _, _, rfl, hq⟩ := hq
 replace hq := dC_some hq; obtain ⟨_, _, rfl, hq⟩ := hq
 replace hq := dD_some hq; obtain ⟨_, rfl, hq⟩ := hq
 replace hq := dJ9 hq; obtain ⟨_, _, _, _, _, _, _, _, _, _, rfl, hq⟩ := hq
 replace hq := dE_some hq; obtain ⟨rfl, hq⟩ := hq
 replace hq := dC_some hq; obtain ⟨_, _, rfl, hq⟩ := hq
 replace hq := dA_some hq; obtain ⟨_, rfl, hq⟩ := hq
 replace hq := dCI_some hq; obtain ⟨_, _, rfl, hq⟩ := hq
 replace hq := dC_some hq; obtain ⟨_, _, rfl, hq⟩ := hq
 replace hq := dBool_some hq; obtain ⟨_, rfl, hq⟩ := hq
 replace hq := dCI_some hq; obtain ⟨_, _, rfl, hq⟩ := hq
 replace hq := dC_some hq; obtain ⟨_, _, rfl, hq⟩ := hq
 replace hq := dBool_some hq; obtain ⟨_, rfl, hq⟩ := hq
 replace hq := dE_some hq; obtain ⟨rfl, hq⟩ := hq
 replace hq := dC_some hq; obtain ⟨_, _, rfl, hq⟩ := hq
 replace hq := dS_some hq; obtain ⟨_, rfl, hq⟩ := hq
 replace hq := dInt_some hq; obtain ⟨_, rfl, hq⟩ := hq
 replace hq := dC_some hq; obtain ⟨_, _, rfl, hq⟩ := hq
 replace hq := dS_some hq; obtain ⟨_, rfl, hq⟩ := hq
 replace hq := dBool_some hq; obtain ⟨_, rfl, hq⟩ := hq
 replace hq := dC_some hq; obtain ⟨_, _, rfl, hq⟩ := hq
 replace hq := dA_some hq; obtain ⟨_, rfl, hq⟩ := hq
 replace hq := dJ6 hq; obtain ⟨_, _, _, _, _, _, _, rfl, hq⟩ := hq
 replace hq := dC_some hq; obtain ⟨_, _, rfl, hq⟩ := hq
 replace hq := dBool_some hq; obtain ⟨_, rfl, hq⟩ := hq
 replace hq := dC_some hq; obtain ⟨_, _, rfl, hq⟩ := hq
 replace hq := dBool_some hq; obtain ⟨_, rfl, hq⟩ := hq
 replace hq := dE_some hq; obtain ⟨rfl, hq⟩ := hq
 replace hq := dC_some hq; obtain ⟨_, _, rfl, hq⟩ := hq
 replace hq := dS_some hq; obtain ⟨_, rfl, hq⟩ := hq
 replace hq := dInt_some hq; obtain ⟨_, rfl, hq⟩ := hq
 replace hq := dC_some hq; obtain ⟨_, _, rfl, hq⟩ := hq
 replace hq := dA_some hq; obtain ⟨_, rfl, hq⟩ := hq
 replace hq := dJ5 hq; obtain ⟨_, _, _, _, _, _, rfl, hq⟩ := hq
 replace hq := dC_some hq; obtain ⟨_, _, rfl, hq⟩ := hq
 replace hq := dD_some hq; obtain ⟨_, rfl, hq⟩ := hq
 replace hq := dJ9 hq; obtain ⟨_, _, _, _, _, _, _, _, _, _, rfl, hq⟩ := hq
 replace hq := dE_some hq; obtain ⟨rfl, hq⟩ := hq
 replace hq := dC_some hq; obtain ⟨_, _, rfl, hq⟩ := hq
 replace hq := dS_some hq; obtain ⟨_, rfl, hq⟩ := hq
 replace hq := dPtr_some hq; obtain ⟨rfl, hq⟩ := hq
 replace hq := dC_some hq; obtain ⟨_, _, rfl, hq⟩ := hq
 replace hq := dS_some hq; obtain ⟨_, rfl, hq⟩ := hq
 replace hq := dPtr_some hq; obtain ⟨rfl, hq⟩ := hq
 replace hq := dE_some hq; obtain ⟨rfl, hq⟩ := hq
 replace hq := dHB_some hq; obtain ⟨_, _, rfl, hq⟩ := hq
 replace hq := dCI_some hq; obtain ⟨_, _, rfl, hq⟩ := hq
 replace hq := dE_some hq; obtain ⟨rfl, hq⟩ := hq
 replace hq := dHB_some hq; obtain ⟨_, _, rfl, hq⟩ := hq
 replace hq := dCI_some hq; obtain ⟨_, _, rfl, hq⟩ := hq
 replace hq := dE_some hq; obtain ⟨rfl, hq⟩ := hq
 replace hq := dE_some hq; obtain ⟨rfl, hq⟩ := hq
 cases hq
 obtain ⟨hc0, rfl, rfl⟩ := pickR_one h2
 exact ⟨41, (fn_eq (by kernel_rfl)).trans ((ev24 _ _ _ _ _ _ _ _ _ _ _ _ _ _ _ _ _ _ _ _ _ _ _ _ _ _ _ _ _ _ _ _ _ _ _ _ _ _ _ _ _ _ _ _ _ _ _).trans (bind_of (ok_val hc0)))⟩
noncomputable def o35 : OrcT := (24, sv24) :: o34
noncomputable def t35 : TellT := t34
noncomputable abbrev tn35 : FuncId → TAn := mkTn base o35 t35
theorem ok35 : TnOk Try.prog tn35 (mkA base) dOk := by
 have h0 : TnOk Try.prog (mkTn base o34 t34) (mkA base) dOk := ok34
 have h1 := tn_orc h0 h0 (p := (24, sv24)) wv24
 exact h1
end Go.Proofs.Ythbinbcgjhnijaa
