/- What some functions and loops come to: printed and checked. Written by a program of ours. -/
import Derived.Test.YtajodcnnadbjkaaG1
set_option linter.all false
set_option linter.constructorNameAsVariable false
set_option linter.unnecessarySimpa false
set_option linter.unusedSimpArgs false
set_option linter.unusedVariables false
set_option maxRecDepth 1000000
set_option linter.unusedVariables false
set_option maxHeartbeats 4000000
namespace Go.Proofs.Ytajodcnnadbjkaa
open Go Go.AM Go.TM Go.Proofs
noncomputable def L27_64_0 : Nat → Int → Int → (List Int) → Int → Int → (List Int) → Bool → (List Int) → Option Int
  | 0, _, _, _, _, _, _, _, _ => none
  | n + 1, x0, x1, x2, x3, x4, x5, x6, x7 => (cond (decide (x4 < x3)) (cond (decide ((0 : Int) ≤ x4)) (cond (decide (x4 < (↑(List.length x2) : Int))) (cond (decide ((0 : Int) ≤ List.getD x2 (Int.toNat x4) (0 : Int))) (cond (decide (List.getD x2 (Int.toNat x4) (0 : Int) < (↑(List.length x5) : Int))) (L27_64_0 n (x0) (IntKind.wrap IntKind.i64 (x1 + List.getD x5 (Int.toNat (List.getD x2 (Int.toNat x4) (0 : Int))) (0 : Int))) (x2) (x3) (IntKind.wrap IntKind.i64 (x4 + (1 : Int))) (x5) (x6) (x7)) none) none) none) none) (some (x1)))
theorem qL27_64_0 : type_of% @L27_64_0.eq_2 := @L27_64_0.eq_2
noncomputable def xL27_64_0 (x0 : Int) (x1 : Int) (x2 : (List Int)) (x3 : Int) (x4 : Int) (x5 : (List Int)) (x6 : Bool) (x7 : (List Int)) : Int → Ex × CS := fun r => ((.exit 8), { sl := [(6, .v (.sc (.ptr 2 0))), (8, .v (.sc (.ptr 3 0))), (15, .v (.sc (.int .i64 (x0)))), (17, .v (.sc (.int .i64 (r))))], lo := [], h := [.loop 1 none 27 161 106 [(5, .v (.sc (.ptr 1 0))), (6, .v (.sc (.ptr 2 0))), (8, .v (.sc (.ptr 3 0)))], .box 22 [.d 3 (.int .i64) (x5)], .box 4 [.bool (x6)], .box 22 [.g 4], .row 3 (.int .i64) (x7)], n0 := 5, w := false })
theorem bL27_64_0 (k : Nat) (cN : CS → Option (Ex × CS)) (cX : Ex → CS → Option (Ex × CS)) (x0 : Int) (x1 : Int) (x2 : (List Int)) (x3 : Int) (x4 : Int) (x5 : (List Int)) (x6 : Bool) (x7 : (List Int)) : loopBody Try.prog (mkTn base o72 t72 27) (TM.evF Try.prog (mkTn base o72 t72) dOk (k + 40)) dOk (k + 40) (codeAt Try.prog (tn0 27) 27 64) 8 64 { sl := [(5, .v (.sc (.ptr 1 0))), (6, .v (.sc (.ptr 2 0))), (8, .v (.sc (.ptr 3 0))), (15, .v (.sc (.int .i64 (x0)))), (17, .v (.sc (.int .i64 (x1)))), (79, .v (.sc (.d 3 (.int .i64) (x2)))), (80, .v (.sc (.int .i64 (x3)))), (81, .v (.sc (.int .i64 (x4))))], lo := [], h := [.loop 1 none 27 161 106 [(5, .v (.sc (.ptr 1 0))), (6, .v (.sc (.ptr 2 0))), (8, .v (.sc (.ptr 3 0)))], .box 22 [.d 3 (.int .i64) (x5)], .box 4 [.bool (x6)], .box 22 [.g 4], .row 3 (.int .i64) (x7)], n0 := 5, w := false } cN cX = (cond (decide (x4 < x3)) (cond (decide ((0 : Int) ≤ x4)) (cond (decide (x4 < (↑(List.length x2) : Int))) (cond (decide ((0 : Int) ≤ List.getD x2 (Int.toNat x4) (0 : Int))) (cond (decide (List.getD x2 (Int.toNat x4) (0 : Int) < (↑(List.length x5) : Int))) (cN { sl := [(5, .v (.sc (.ptr 1 0))), (6, .v (.sc (.ptr 2 0))), (8, .v (.sc (.ptr 3 0))), (15, .v (.sc (.int .i64 (x0)))), (17, .v (.sc (.int .i64 (IntKind.wrap IntKind.i64 (x1 + List.getD x5 (Int.toNat (List.getD x2 (Int.toNat x4) (0 : Int))) (0 : Int)))))), (79, .v (.sc (.d 3 (.int .i64) (x2)))), (80, .v (.sc (.int .i64 (x3)))), (81, .v (.sc (.int .i64 (IntKind.wrap IntKind.i64 (x4 + (1 : Int))))))], lo := [], h := [.loop 1 none 27 161 106 [(5, .v (.sc (.ptr 1 0))), (6, .v (.sc (.ptr 2 0))), (8, .v (.sc (.ptr 3 0)))], .box 22 [.d 3 (.int .i64) (x5)], .box 4 [.bool (x6)], .box 22 [.g 4], .row 3 (.int .i64) (x7)], n0 := 5, w := false }) none) none) none) none) (cX (.exit 8) { sl := [(6, .v (.sc (.ptr 2 0))), (8, .v (.sc (.ptr 3 0))), (15, .v (.sc (.int .i64 (x0)))), (17, .v (.sc (.int .i64 (x1))))], lo := [], h := [.loop 1 none 27 161 106 [(5, .v (.sc (.ptr 1 0))), (6, .v (.sc (.ptr 2 0))), (8, .v (.sc (.ptr 3 0)))], .box 22 [.d 3 (.int .i64) (x5)], .box 4 [.bool (x6)], .box 22 [.g 4], .row 3 (.int .i64) (x7)], n0 := 5, w := false })) := by kernel_rfl
theorem lL27_64_0 (k m : Nat) : ∀ (n : Nat) (x0 : Int) (x1 : Int) (x2 : (List Int)) (x3 : Int) (x4 : Int) (x5 : (List Int)) (x6 : Bool) (x7 : (List Int)) (r : Int), L27_64_0 n x0 x1 x2 x3 x4 x5 x6 x7 = some r → loopE Try.prog (mkTn base o72 t72 27) (TM.evF Try.prog (mkTn base o72 t72) dOk (k + 40)) dOk (k + 40) (codeAt Try.prog (tn0 27) 27 64) 8 64 (n + m) { sl := [(5, .v (.sc (.ptr 1 0))), (6, .v (.sc (.ptr 2 0))), (8, .v (.sc (.ptr 3 0))), (15, .v (.sc (.int .i64 (x0)))), (17, .v (.sc (.int .i64 (x1)))), (79, .v (.sc (.d 3 (.int .i64) (x2)))), (80, .v (.sc (.int .i64 (x3)))), (81, .v (.sc (.int .i64 (x4))))], lo := [], h := [.loop 1 none 27 161 106 [(5, .v (.sc (.ptr 1 0))), (6, .v (.sc (.ptr 2 0))), (8, .v (.sc (.ptr 3 0)))], .box 22 [.d 3 (.int .i64) (x5)], .box 4 [.bool (x6)], .box 22 [.g 4], .row 3 (.int .i64) (x7)], n0 := 5, w := false } = some (xL27_64_0 x0 x1 x2 x3 x4 x5 x6 x7 r) := by
  intro n
  induction n with
  | zero => intro _ _ _ _ _ _ _ _ r h; cases h
  | succ n ih =>
    intro x0 x1 x2 x3 x4 x5 x6 x7 r
    rw [show n + 1 + m = n + m + 1 by omega, loop_step, bL27_64_0, qL27_64_0]
    cases (decide (x4 < x3)) with
    | true =>
      cases (decide ((0 : Int) ≤ x4)) with
      | true =>
        cases (decide (x4 < (↑(List.length x2) : Int))) with
        | true =>
          cases (decide ((0 : Int) ≤ List.getD x2 (Int.toNat x4) (0 : Int))) with
          | true =>
            cases (decide (List.getD x2 (Int.toNat x4) (0 : Int) < (↑(List.length x5) : Int))) with
            | true =>
              exact ih _ _ _ _ _ _ _ _ r
            | false =>
              intro h; cases h
          | false =>
            intro h; cases h
        | false =>
          intro h; cases h
      | false =>
        intro h; cases h
    | false =>
      intro h; cases h; rfl
noncomputable def sL27_64_0 : TellS := fun S => dCS 5 S fun y1 y2 y3 => dSs 5 y1 fun y5 l4 => dPtr 1 0 y5 <| dSs 6 l4 fun y7 l6 => dPtr 2 0 y7 <| dSs 8 l6 fun y9 l8 => dPtr 3 0 y9 <| dSI 15 .i64 l8 fun x0 l10 => dSI 17 .i64 l10 fun x1 l11 => dSs 79 l11 fun y13 l12 => dD 3 (.int .i64) y13 fun x2 => dSI 80 .i64 l12 fun x3 l14 => dSI 81 .i64 l14 fun x4 l15 => dE l15 <| dE y2 <| dC y3 fun y17 l16 => dLoop 1 none 27 161 106 y17 fun y18 => dSs 5 y18 fun y20 l19 => dPtr 1 0 y20 <| dSs 6 l19 fun y22 l21 => dPtr 2 0 y22 <| dSs 8 l21 fun y24 l23 => dPtr 3 0 y24 <| dE l23 <| dHB 22 l16 fun y26 l25 => dC y26 fun y27 l28 => dD 3 (.int .i64) y27 fun x5 => dE l28 <| dHB 4 l25 fun y30 l29 => dC y30 fun y31 l32 => dBool y31 fun x6 => dE l32 <| dHB 22 l29 fun y34 l33 => dC y34 fun y35 l36 => dG 4 y35 <| dE l36 <| dHR 3 (.int .i64) l33 fun x7 l37 => dE l37 <|  some [(ok (L27_64_0 FU x0 x1 x2 x3 x4 x5 x6 x7), (.exit 8), { sl := [(6, .v (.sc (.ptr 2 0))), (8, .v (.sc (.ptr 3 0))), (15, .v (.sc (.int .i64 (x0)))), (17, .v (.sc (.int .i64 ((val (L27_64_0 FU x0 x1 x2 x3 x4 x5 x6 x7))))))], lo := [], h := [.loop 1 none 27 161 106 [(5, .v (.sc (.ptr 1 0))), (6, .v (.sc (.ptr 2 0))), (8, .v (.sc (.ptr 3 0)))], .box 22 [.d 3 (.int .i64) (x5)], .box 4 [.bool (x6)], .box 22 [.g 4], .row 3 (.int .i64) (x7)], n0 := 5, w := false })]
theorem wL27_64_0 : NewTell Try.prog dOk base o72 t72 ((27, 64), sL27_64_0) := by
  refine ⟨.loop (codeAt Try.prog (tn0 27) 27 64), 8, by kernel_rfl, ?_⟩
  intro S alts e S' h10 h2
  have h1 : sL27_64_0 S = some alts := h10
  clear h10
  unfold sL27_64_0 at h1
  replace h1 := dCS_some h1; obtain ⟨y1, y2, y3, rfl, h1⟩ := h1
  replace h1 := dSs_some h1; obtain ⟨y5, l4, rfl, h1⟩ := h1
  replace h1 := dPtr_some h1; obtain ⟨rfl, h1⟩ := h1
  replace h1 := dSs_some h1; obtain ⟨y7, l6, rfl, h1⟩ := h1
  replace h1 := dPtr_some h1; obtain ⟨rfl, h1⟩ := h1
  replace h1 := dSs_some h1; obtain ⟨y9, l8, rfl, h1⟩ := h1
  replace h1 := dPtr_some h1; obtain ⟨rfl, h1⟩ := h1
  replace h1 := dSI_some h1; obtain ⟨x0, l10, rfl, h1⟩ := h1
  replace h1 := dSI_some h1; obtain ⟨x1, l11, rfl, h1⟩ := h1
  replace h1 := dSs_some h1; obtain ⟨y13, l12, rfl, h1⟩ := h1
  replace h1 := dD_some h1; obtain ⟨x2, rfl, h1⟩ := h1
  replace h1 := dSI_some h1; obtain ⟨x3, l14, rfl, h1⟩ := h1
  replace h1 := dSI_some h1; obtain ⟨x4, l15, rfl, h1⟩ := h1
  replace h1 := dE_some h1; obtain ⟨rfl, h1⟩ := h1
  replace h1 := dE_some h1; obtain ⟨rfl, h1⟩ := h1
  replace h1 := dC_some h1; obtain ⟨y17, l16, rfl, h1⟩ := h1
  replace h1 := dLoop_some h1; obtain ⟨y18, rfl, h1⟩ := h1
  replace h1 := dSs_some h1; obtain ⟨y20, l19, rfl, h1⟩ := h1
  replace h1 := dPtr_some h1; obtain ⟨rfl, h1⟩ := h1
  replace h1 := dSs_some h1; obtain ⟨y22, l21, rfl, h1⟩ := h1
  replace h1 := dPtr_some h1; obtain ⟨rfl, h1⟩ := h1
  replace h1 := dSs_some h1; obtain ⟨y24, l23, rfl, h1⟩ := h1
  replace h1 := dPtr_some h1; obtain ⟨rfl, h1⟩ := h1
  replace h1 := dE_some h1; obtain ⟨rfl, h1⟩ := h1
  replace h1 := dHB_some h1; obtain ⟨y26, l25, rfl, h1⟩ := h1
  replace h1 := dC_some h1; obtain ⟨y27, l28, rfl, h1⟩ := h1
  replace h1 := dD_some h1; obtain ⟨x5, rfl, h1⟩ := h1
  replace h1 := dE_some h1; obtain ⟨rfl, h1⟩ := h1
  replace h1 := dHB_some h1; obtain ⟨y30, l29, rfl, h1⟩ := h1
  replace h1 := dC_some h1; obtain ⟨y31, l32, rfl, h1⟩ := h1
  replace h1 := dBool_some h1; obtain ⟨x6, rfl, h1⟩ := h1
  replace h1 := dE_some h1; obtain ⟨rfl, h1⟩ := h1
  replace h1 := dHB_some h1; obtain ⟨y34, l33, rfl, h1⟩ := h1
  replace h1 := dC_some h1; obtain ⟨y35, l36, rfl, h1⟩ := h1
  replace h1 := dG_some h1; obtain ⟨rfl, h1⟩ := h1
  replace h1 := dE_some h1; obtain ⟨rfl, h1⟩ := h1
  replace h1 := dHR_some h1; obtain ⟨x7, l37, rfl, h1⟩ := h1
  replace h1 := dE_some h1; obtain ⟨rfl, h1⟩ := h1
  cases h1
  obtain ⟨hc0, rfl, rfl⟩ := pick_one h2
  exact ⟨FU + 40, (evPiece_loop rfl).trans (lL27_64_0 FU 40 FU _ _ _ _ _ _ _ _ _ (ok_val hc0))⟩
noncomputable def o73 : OrcT := o72
noncomputable def t73 : TellT := ((27, 64), sL27_64_0) :: t72
noncomputable abbrev tn73 : FuncId → TAn := mkTn base o73 t73
theorem ok73 : TnOk Try.prog tn73 (mkA base) dOk := by
  have h0 : TnOk Try.prog (mkTn base o72 t72) (mkA base) dOk := ok72
  have h1 := tn_tell h0 h0 (p := ((27, 64), sL27_64_0)) wL27_64_0
  exact h1
noncomputable def vR_1 (x0 : Int) (x1 : (List Int)) (x2 : Int) (x3 : (List Int)) (x4 : Bool) (x5 : (List Int)) : Option (Unit ⊕ Unit) := (cond (ok (L27_64_0 FU x0 (0 : Int) x1 (↑(List.length x1) : Int) (0 : Int) x3 x4 x5)) (cond (val (L27_64_0 FU x0 (0 : Int) x1 (↑(List.length x1) : Int) (0 : Int) x3 x4 x5) == (0 : Int)) (some (.inl ())) (cond (decide ((0 : Int) ≤ x0)) (cond (decide (x0 < (↑(List.length x5) : Int))) (cond (decide (Int.toNat x0 < List.length x5)) (cond (decide (val (L27_64_0 FU x0 (0 : Int) x1 (↑(List.length x1) : Int) (0 : Int) x3 x4 x5) ≠ (0 : Int))) (cond (decide (List.getD x5 (Int.toNat x0) (0 : Int) < IntKind.wrap IntKind.i64 (Int.tdiv (IntKind.wrap IntKind.i64 (IntKind.wrap IntKind.i64 ((1000000000000 : Int) + val (L27_64_0 FU x0 (0 : Int) x1 (↑(List.length x1) : Int) (0 : Int) x3 x4 x5)) - (1 : Int))) (val (L27_64_0 FU x0 (0 : Int) x1 (↑(List.length x1) : Int) (0 : Int) x3 x4 x5))))) (some (.inl ())) (some (.inr ()))) none) none) none) none)) none)
noncomputable def xvR_1 (x0 : Int) (x1 : (List Int)) (x2 : Int) (x3 : (List Int)) (x4 : Bool) (x5 : (List Int)) : (Unit ⊕ Unit) → List TA × TH := fun r => match r with | .inl a0 => ([.sc (.bool (false))], [.loop 2 (some .ret) 27 161 106 [(5, .v (.sc (.ptr 1 0))), (6, .v (.sc (.ptr 2 0))), (8, .v (.sc (.ptr 3 0)))], .box 22 [.d 3 (.int .i64) (x3)], .box 4 [.bool (false)], .box 22 [.g 4], .row 3 (.int .i64) (x5)]) | .inr b0 => ([.sc (.bool (true))], [.loop 0 none 27 161 106 [(5, .v (.sc (.ptr 1 0))), (6, .v (.sc (.ptr 2 0))), (8, .v (.sc (.ptr 3 0)))], .box 22 [.d 3 (.int .i64) (x3)], .box 4 [.bool (x4)], .box 22 [.g 4], .row 3 (.int .i64) (x5)])
theorem evR_1 (x0 : Int) (x1 : (List Int)) (x2 : Int) (x3 : (List Int)) (x4 : Bool) (x5 : (List Int)) : evY Try.prog (mkTn base o73 t73) (TM.evF Try.prog (mkTn base o73 t73) dOk 40) dOk 40 [.sc (.yl 0), .sc (.int .i64 (x0)), .agg [.d 3 (.int .i64) (x1), .int .i64 (x2)]] [.loop 0 none 27 161 106 [(5, .v (.sc (.ptr 1 0))), (6, .v (.sc (.ptr 2 0))), (8, .v (.sc (.ptr 3 0)))], .box 22 [.d 3 (.int .i64) (x3)], .box 4 [.bool (x4)], .box 22 [.g 4], .row 3 (.int .i64) (x5)] = (vR_1 x0 x1 x2 x3 x4 x5).bind fun r => some (xvR_1 x0 x1 x2 x3 x4 x5 r) := by
  refine Eq.trans (b := (cond (ok (L27_64_0 FU x0 (0 : Int) x1 (↑(List.length x1) : Int) (0 : Int) x3 x4 x5)) (cond (val (L27_64_0 FU x0 (0 : Int) x1 (↑(List.length x1) : Int) (0 : Int) x3 x4 x5) == (0 : Int)) (some ([.sc (.bool (false))], [.loop 2 (some .ret) 27 161 106 [(5, .v (.sc (.ptr 1 0))), (6, .v (.sc (.ptr 2 0))), (8, .v (.sc (.ptr 3 0)))], .box 22 [.d 3 (.int .i64) (x3)], .box 4 [.bool (false)], .box 22 [.g 4], .row 3 (.int .i64) (x5)])) (cond (decide ((0 : Int) ≤ x0)) (cond (decide (x0 < (↑(List.length x5) : Int))) (cond (decide (Int.toNat x0 < List.length x5)) (cond (decide (val (L27_64_0 FU x0 (0 : Int) x1 (↑(List.length x1) : Int) (0 : Int) x3 x4 x5) ≠ (0 : Int))) (cond (decide (List.getD x5 (Int.toNat x0) (0 : Int) < IntKind.wrap IntKind.i64 (Int.tdiv (IntKind.wrap IntKind.i64 (IntKind.wrap IntKind.i64 ((1000000000000 : Int) + val (L27_64_0 FU x0 (0 : Int) x1 (↑(List.length x1) : Int) (0 : Int) x3 x4 x5)) - (1 : Int))) (val (L27_64_0 FU x0 (0 : Int) x1 (↑(List.length x1) : Int) (0 : Int) x3 x4 x5))))) (some ([.sc (.bool (false))], [.loop 2 (some .ret) 27 161 106 [(5, .v (.sc (.ptr 1 0))), (6, .v (.sc (.ptr 2 0))), (8, .v (.sc (.ptr 3 0)))], .box 22 [.d 3 (.int .i64) (x3)], .box 4 [.bool (false)], .box 22 [.g 4], .row 3 (.int .i64) (x5)])) (some ([.sc (.bool (true))], [.loop 0 none 27 161 106 [(5, .v (.sc (.ptr 1 0))), (6, .v (.sc (.ptr 2 0))), (8, .v (.sc (.ptr 3 0)))], .box 22 [.d 3 (.int .i64) (x3)], .box 4 [.bool (x4)], .box 22 [.g 4], .row 3 (.int .i64) (x5)]))) none) none) none) none)) none)) (by kernel_rfl) ?_
  unfold vR_1
  cases (ok (L27_64_0 FU x0 (0 : Int) x1 (↑(List.length x1) : Int) (0 : Int) x3 x4 x5)) with
  | true =>
    cases (val (L27_64_0 FU x0 (0 : Int) x1 (↑(List.length x1) : Int) (0 : Int) x3 x4 x5) == (0 : Int)) with
    | true =>
      rfl
    | false =>
      cases (decide ((0 : Int) ≤ x0)) with
      | true =>
        cases (decide (x0 < (↑(List.length x5) : Int))) with
        | true =>
          cases (decide (Int.toNat x0 < List.length x5)) with
          | true =>
            cases (decide (val (L27_64_0 FU x0 (0 : Int) x1 (↑(List.length x1) : Int) (0 : Int) x3 x4 x5) ≠ (0 : Int))) with
            | true =>
              cases (decide (List.getD x5 (Int.toNat x0) (0 : Int) < IntKind.wrap IntKind.i64 (Int.tdiv (IntKind.wrap IntKind.i64 (IntKind.wrap IntKind.i64 ((1000000000000 : Int) + val (L27_64_0 FU x0 (0 : Int) x1 (↑(List.length x1) : Int) (0 : Int) x3 x4 x5)) - (1 : Int))) (val (L27_64_0 FU x0 (0 : Int) x1 (↑(List.length x1) : Int) (0 : Int) x3 x4 x5))))) with
              | true =>
                rfl
              | false =>
                rfl
            | false =>
              rfl
          | false =>
            rfl
        | false =>
          rfl
      | false =>
        rfl
  | false =>
    rfl
noncomputable def svR_1 : OrcS := fun al H => dC al fun y1 l2 => dS y1 fun y3 => dYl 0 y3 <| dC l2 fun y4 l5 => dS y4 fun y6 => dInt .i64 y6 fun x0 => dC l5 fun y7 l8 => dA y7 fun y9 => dC y9 fun y10 l11 => dD 3 (.int .i64) y10 fun x1 => dCI .i64 l11 fun x2 l12 => dE l12 <| dE l8 <| dC H fun y14 l13 => dLoop 0 none 27 161 106 y14 fun y15 => dSs 5 y15 fun y17 l16 => dPtr 1 0 y17 <| dSs 6 l16 fun y19 l18 => dPtr 2 0 y19 <| dSs 8 l18 fun y21 l20 => dPtr 3 0 y21 <| dE l20 <| dHB 22 l13 fun y23 l22 => dC y23 fun y24 l25 => dD 3 (.int .i64) y24 fun x3 => dE l25 <| dHB 4 l22 fun y27 l26 => dC y27 fun y28 l29 => dBool y28 fun x4 => dE l29 <| dHB 22 l26 fun y31 l30 => dC y31 fun y32 l33 => dG 4 y32 <| dE l33 <| dHR 3 (.int .i64) l30 fun x5 l34 => dE l34 <|  some [(isL (vR_1 x0 x1 x2 x3 x4 x5), [.sc (.bool (false))], [.loop 2 (some .ret) 27 161 106 [(5, .v (.sc (.ptr 1 0))), (6, .v (.sc (.ptr 2 0))), (8, .v (.sc (.ptr 3 0)))], .box 22 [.d 3 (.int .i64) (x3)], .box 4 [.bool (false)], .box 22 [.g 4], .row 3 (.int .i64) (x5)]), (ok (getR (vR_1 x0 x1 x2 x3 x4 x5)), [.sc (.bool (true))], [.loop 0 none 27 161 106 [(5, .v (.sc (.ptr 1 0))), (6, .v (.sc (.ptr 2 0))), (8, .v (.sc (.ptr 3 0)))], .box 22 [.d 3 (.int .i64) (x3)], .box 4 [.bool (x4)], .box 22 [.g 4], .row 3 (.int .i64) (x5)])]
theorem wvR_1 : NewOrc Try.prog dOk base o73 t73 (4294967295, svR_1) := by
  intro al H q hq0 rs H2 h2
  have hq : svR_1 al H = some q := hq0
  clear hq0
  unfold svR_1 at hq
  replace hq := dC_some hq; obtain ⟨y1, l2, rfl, hq⟩ := hq
  replace hq := dS_some hq; obtain ⟨y3, rfl, hq⟩ := hq
  replace hq := dYl_some hq; obtain ⟨rfl, hq⟩ := hq
  replace hq := dC_some hq; obtain ⟨y4, l5, rfl, hq⟩ := hq
  replace hq := dS_some hq; obtain ⟨y6, rfl, hq⟩ := hq
  replace hq := dInt_some hq; obtain ⟨x0, rfl, hq⟩ := hq
  replace hq := dC_some hq; obtain ⟨y7, l8, rfl, hq⟩ := hq
  replace hq := dA_some hq; obtain ⟨y9, rfl, hq⟩ := hq
  replace hq := dC_some hq; obtain ⟨y10, l11, rfl, hq⟩ := hq
  replace hq := dD_some hq; obtain ⟨x1, rfl, hq⟩ := hq
  replace hq := dCI_some hq; obtain ⟨x2, l12, rfl, hq⟩ := hq
  replace hq := dE_some hq; obtain ⟨rfl, hq⟩ := hq
  replace hq := dE_some hq; obtain ⟨rfl, hq⟩ := hq
  replace hq := dC_some hq; obtain ⟨y14, l13, rfl, hq⟩ := hq
  replace hq := dLoop_some hq; obtain ⟨y15, rfl, hq⟩ := hq
  replace hq := dSs_some hq; obtain ⟨y17, l16, rfl, hq⟩ := hq
  replace hq := dPtr_some hq; obtain ⟨rfl, hq⟩ := hq
  replace hq := dSs_some hq; obtain ⟨y19, l18, rfl, hq⟩ := hq
  replace hq := dPtr_some hq; obtain ⟨rfl, hq⟩ := hq
  replace hq := dSs_some hq; obtain ⟨y21, l20, rfl, hq⟩ := hq
  replace hq := dPtr_some hq; obtain ⟨rfl, hq⟩ := hq
  replace hq := dE_some hq; obtain ⟨rfl, hq⟩ := hq
  replace hq := dHB_some hq; obtain ⟨y23, l22, rfl, hq⟩ := hq
  replace hq := dC_some hq; obtain ⟨y24, l25, rfl, hq⟩ := hq
  replace hq := dD_some hq; obtain ⟨x3, rfl, hq⟩ := hq
  replace hq := dE_some hq; obtain ⟨rfl, hq⟩ := hq
  replace hq := dHB_some hq; obtain ⟨y27, l26, rfl, hq⟩ := hq
  replace hq := dC_some hq; obtain ⟨y28, l29, rfl, hq⟩ := hq
  replace hq := dBool_some hq; obtain ⟨x4, rfl, hq⟩ := hq
  replace hq := dE_some hq; obtain ⟨rfl, hq⟩ := hq
  replace hq := dHB_some hq; obtain ⟨y31, l30, rfl, hq⟩ := hq
  replace hq := dC_some hq; obtain ⟨y32, l33, rfl, hq⟩ := hq
  replace hq := dG_some hq; obtain ⟨rfl, hq⟩ := hq
  replace hq := dE_some hq; obtain ⟨rfl, hq⟩ := hq
  replace hq := dHR_some hq; obtain ⟨x5, l34, rfl, hq⟩ := hq
  replace hq := dE_some hq; obtain ⟨rfl, hq⟩ := hq
  cases hq
  rcases pickR_cons h2 with ⟨hc0, rfl, rfl⟩ | h2
  · exact ⟨41, fnY_eq.trans ((evR_1 _ _ _ _ _ _).trans (bind_of (isL_val hc0)))⟩
  obtain ⟨hc1, rfl, rfl⟩ := pickR_one h2
  exact ⟨41, fnY_eq.trans ((evR_1 _ _ _ _ _ _).trans (bind_of (getR_val (ok_val hc1))))⟩
noncomputable def o74 : OrcT := (4294967295, svR_1) :: o73
noncomputable def t74 : TellT := t73
noncomputable abbrev tn74 : FuncId → TAn := mkTn base o74 t74
theorem ok74 : TnOk Try.prog tn74 (mkA base) dOk := by
  have h0 : TnOk Try.prog (mkTn base o73 t73) (mkA base) dOk := ok73
  have h1 := tn_orc h0 h0 (p := (4294967295, svR_1)) wvR_1
  exact h1
noncomputable def L52_16_1 : Nat → Int → (List (List (List Int))) → Int → Int → (List (List Int)) → Int → Int → (List Int) → Bool → (List Int) → (List Int) → (List (List (List Int))) → (List (List Int)) → Option (Bool ⊕ Unit)
  | 0, _, _, _, _, _, _, _, _, _, _, _, _, _ => none
  | n + 1, x0, x1, x2, x3, x4, x5, x6, x7, x8, x9, x10, x11, x12 => (cond (decide (x6 < x5)) (cond (decide ((0 : Int) ≤ x6)) (cond (decide (x6 < (↑(List.length x4) : Int))) (cond (decide ((0 : Int) ≤ x0)) (cond (decide (x0 < (↑(List.length x12) : Int))) (cond (decide (x6 < (↑(List.length (List.getD x12 (Int.toNat x0) [])) : Int))) (cond (isL (vR_1 x0 (List.getD x4 (Int.toNat x6) []) (List.getD (List.getD x12 (Int.toNat x0) []) (Int.toNat x6) (0 : Int)) x7 x8 x9)) (some (.inl (false))) (cond (ok (getR (vR_1 x0 (List.getD x4 (Int.toNat x6) []) (List.getD (List.getD x12 (Int.toNat x0) []) (Int.toNat x6) (0 : Int)) x7 x8 x9))) (L52_16_1 n (x0) (x1) (x2) (x3) (x4) (x5) (IntKind.wrap IntKind.i64 (x6 + (1 : Int))) (x7) (x8) (x9) (x10) (x11) (x12)) none)) none) none) none) none) none) (some (.inr ())))
theorem qL52_16_1 : type_of% @L52_16_1.eq_2 := @L52_16_1.eq_2
noncomputable def xL52_16_1 (x0 : Int) (x1 : (List (List (List Int)))) (x2 : Int) (x3 : Int) (x4 : (List (List Int))) (x5 : Int) (x6 : Int) (x7 : (List Int)) (x8 : Bool) (x9 : (List Int)) (x10 : (List Int)) (x11 : (List (List (List Int)))) (x12 : (List (List Int))) : (Bool ⊕ Unit) → Ex × CS := fun r => match r with | .inl a0 => (.ret, { sl := [], lo := [], h := [.loop 2 (some .ret) 27 161 106 [(5, .v (.sc (.ptr 1 0))), (6, .v (.sc (.ptr 2 0))), (8, .v (.sc (.ptr 3 0)))], .box 22 [.d 3 (.int .i64) (x7)], .box 4 [.bool (a0)], .box 22 [.g 4], .row 3 (.int .i64) (x9), .box 25 [.d 3 (.int .i64) (x10), .d 26 (.list 22 (.list 3 (.int .i64))) (x11)], .box 26 [.d 22 (.list 3 (.int .i64)) (x12)]], n0 := 7, w := true }) | .inr b0 => ((.exit 2), { sl := [(0, .v (.sc (.yl 0))), (2, .v (.sc (.ptr 6 0))), (9, .v (.sc (.d 26 (.list 22 (.list 3 (.int .i64))) (x1)))), (10, .v (.sc (.int .i64 (x2)))), (11, .v (.sc (.int .i64 (x3))))], lo := [], h := [.loop 0 none 27 161 106 [(5, .v (.sc (.ptr 1 0))), (6, .v (.sc (.ptr 2 0))), (8, .v (.sc (.ptr 3 0)))], .box 22 [.d 3 (.int .i64) (x7)], .box 4 [.bool (x8)], .box 22 [.g 4], .row 3 (.int .i64) (x9), .box 25 [.d 3 (.int .i64) (x10), .d 26 (.list 22 (.list 3 (.int .i64))) (x11)], .box 26 [.d 22 (.list 3 (.int .i64)) (x12)]], n0 := 7, w := false })
theorem bL52_16_1 (k : Nat) (cN : CS → Option (Ex × CS)) (cX : Ex → CS → Option (Ex × CS)) (x0 : Int) (x1 : (List (List (List Int)))) (x2 : Int) (x3 : Int) (x4 : (List (List Int))) (x5 : Int) (x6 : Int) (x7 : (List Int)) (x8 : Bool) (x9 : (List Int)) (x10 : (List Int)) (x11 : (List (List (List Int)))) (x12 : (List (List Int))) : loopBody Try.prog (mkTn base o74 t74 52) (TM.evF Try.prog (mkTn base o74 t74) dOk (k + 40)) dOk (k + 40) (codeAt Try.prog (tn0 52) 52 16) 2 16 { sl := [(0, .v (.sc (.yl 0))), (2, .v (.sc (.ptr 6 0))), (4, .v (.sc (.int .i64 (x0)))), (9, .v (.sc (.d 26 (.list 22 (.list 3 (.int .i64))) (x1)))), (10, .v (.sc (.int .i64 (x2)))), (11, .v (.sc (.int .i64 (x3)))), (16, .v (.sc (.d 22 (.list 3 (.int .i64)) (x4)))), (17, .v (.sc (.int .i64 (x5)))), (18, .v (.sc (.int .i64 (x6))))], lo := [], h := [.loop 0 none 27 161 106 [(5, .v (.sc (.ptr 1 0))), (6, .v (.sc (.ptr 2 0))), (8, .v (.sc (.ptr 3 0)))], .box 22 [.d 3 (.int .i64) (x7)], .box 4 [.bool (x8)], .box 22 [.g 4], .row 3 (.int .i64) (x9), .box 25 [.d 3 (.int .i64) (x10), .d 26 (.list 22 (.list 3 (.int .i64))) (x11)], .box 26 [.d 22 (.list 3 (.int .i64)) (x12)]], n0 := 7, w := false } cN cX = (cond (decide (x6 < x5)) (cond (decide ((0 : Int) ≤ x6)) (cond (decide (x6 < (↑(List.length x4) : Int))) (cond (decide ((0 : Int) ≤ x0)) (cond (decide (x0 < (↑(List.length x12) : Int))) (cond (decide ((0 : Int) ≤ x6)) (cond (decide (x6 < (↑(List.length (List.getD x12 (Int.toNat x0) [])) : Int))) (cond (isL (vR_1 x0 (List.getD x4 (Int.toNat x6) []) (List.getD (List.getD x12 (Int.toNat x0) []) (Int.toNat x6) (0 : Int)) x7 x8 x9)) (cX .ret { sl := [], lo := [], h := [.loop 2 (some .ret) 27 161 106 [(5, .v (.sc (.ptr 1 0))), (6, .v (.sc (.ptr 2 0))), (8, .v (.sc (.ptr 3 0)))], .box 22 [.d 3 (.int .i64) (x7)], .box 4 [.bool (false)], .box 22 [.g 4], .row 3 (.int .i64) (x9), .box 25 [.d 3 (.int .i64) (x10), .d 26 (.list 22 (.list 3 (.int .i64))) (x11)], .box 26 [.d 22 (.list 3 (.int .i64)) (x12)]], n0 := 7, w := true }) (cond (ok (getR (vR_1 x0 (List.getD x4 (Int.toNat x6) []) (List.getD (List.getD x12 (Int.toNat x0) []) (Int.toNat x6) (0 : Int)) x7 x8 x9))) (cN { sl := [(0, .v (.sc (.yl 0))), (2, .v (.sc (.ptr 6 0))), (4, .v (.sc (.int .i64 (x0)))), (9, .v (.sc (.d 26 (.list 22 (.list 3 (.int .i64))) (x1)))), (10, .v (.sc (.int .i64 (x2)))), (11, .v (.sc (.int .i64 (x3)))), (16, .v (.sc (.d 22 (.list 3 (.int .i64)) (x4)))), (17, .v (.sc (.int .i64 (x5)))), (18, .v (.sc (.int .i64 (IntKind.wrap IntKind.i64 (x6 + (1 : Int))))))], lo := [], h := [.loop 0 none 27 161 106 [(5, .v (.sc (.ptr 1 0))), (6, .v (.sc (.ptr 2 0))), (8, .v (.sc (.ptr 3 0)))], .box 22 [.d 3 (.int .i64) (x7)], .box 4 [.bool (x8)], .box 22 [.g 4], .row 3 (.int .i64) (x9), .box 25 [.d 3 (.int .i64) (x10), .d 26 (.list 22 (.list 3 (.int .i64))) (x11)], .box 26 [.d 22 (.list 3 (.int .i64)) (x12)]], n0 := 7, w := false }) none)) none) none) none) none) none) none) (cX (.exit 2) { sl := [(0, .v (.sc (.yl 0))), (2, .v (.sc (.ptr 6 0))), (9, .v (.sc (.d 26 (.list 22 (.list 3 (.int .i64))) (x1)))), (10, .v (.sc (.int .i64 (x2)))), (11, .v (.sc (.int .i64 (x3))))], lo := [], h := [.loop 0 none 27 161 106 [(5, .v (.sc (.ptr 1 0))), (6, .v (.sc (.ptr 2 0))), (8, .v (.sc (.ptr 3 0)))], .box 22 [.d 3 (.int .i64) (x7)], .box 4 [.bool (x8)], .box 22 [.g 4], .row 3 (.int .i64) (x9), .box 25 [.d 3 (.int .i64) (x10), .d 26 (.list 22 (.list 3 (.int .i64))) (x11)], .box 26 [.d 22 (.list 3 (.int .i64)) (x12)]], n0 := 7, w := false })) := by kernel_rfl
theorem lL52_16_1 (k m : Nat) : ∀ (n : Nat) (x0 : Int) (x1 : (List (List (List Int)))) (x2 : Int) (x3 : Int) (x4 : (List (List Int))) (x5 : Int) (x6 : Int) (x7 : (List Int)) (x8 : Bool) (x9 : (List Int)) (x10 : (List Int)) (x11 : (List (List (List Int)))) (x12 : (List (List Int))) (r : (Bool ⊕ Unit)), L52_16_1 n x0 x1 x2 x3 x4 x5 x6 x7 x8 x9 x10 x11 x12 = some r → loopE Try.prog (mkTn base o74 t74 52) (TM.evF Try.prog (mkTn base o74 t74) dOk (k + 40)) dOk (k + 40) (codeAt Try.prog (tn0 52) 52 16) 2 16 (n + m) { sl := [(0, .v (.sc (.yl 0))), (2, .v (.sc (.ptr 6 0))), (4, .v (.sc (.int .i64 (x0)))), (9, .v (.sc (.d 26 (.list 22 (.list 3 (.int .i64))) (x1)))), (10, .v (.sc (.int .i64 (x2)))), (11, .v (.sc (.int .i64 (x3)))), (16, .v (.sc (.d 22 (.list 3 (.int .i64)) (x4)))), (17, .v (.sc (.int .i64 (x5)))), (18, .v (.sc (.int .i64 (x6))))], lo := [], h := [.loop 0 none 27 161 106 [(5, .v (.sc (.ptr 1 0))), (6, .v (.sc (.ptr 2 0))), (8, .v (.sc (.ptr 3 0)))], .box 22 [.d 3 (.int .i64) (x7)], .box 4 [.bool (x8)], .box 22 [.g 4], .row 3 (.int .i64) (x9), .box 25 [.d 3 (.int .i64) (x10), .d 26 (.list 22 (.list 3 (.int .i64))) (x11)], .box 26 [.d 22 (.list 3 (.int .i64)) (x12)]], n0 := 7, w := false } = some (xL52_16_1 x0 x1 x2 x3 x4 x5 x6 x7 x8 x9 x10 x11 x12 r) := by
  intro n
  induction n with
  | zero => intro _ _ _ _ _ _ _ _ _ _ _ _ _ r h; cases h
  | succ n ih =>
    intro x0 x1 x2 x3 x4 x5 x6 x7 x8 x9 x10 x11 x12 r
    rw [show n + 1 + m = n + m + 1 by omega, loop_step, bL52_16_1, qL52_16_1]
    cases (decide (x6 < x5)) with
    | true =>
      cases (decide ((0 : Int) ≤ x6)) with
      | true =>
        cases (decide (x6 < (↑(List.length x4) : Int))) with
        | true =>
          cases (decide ((0 : Int) ≤ x0)) with
          | true =>
            cases (decide (x0 < (↑(List.length x12) : Int))) with
            | true =>
              cases (decide (x6 < (↑(List.length (List.getD x12 (Int.toNat x0) [])) : Int))) with
              | true =>
                cases (isL (vR_1 x0 (List.getD x4 (Int.toNat x6) []) (List.getD (List.getD x12 (Int.toNat x0) []) (Int.toNat x6) (0 : Int)) x7 x8 x9)) with
                | true =>
                  intro h; cases h; rfl
                | false =>
                  cases (ok (getR (vR_1 x0 (List.getD x4 (Int.toNat x6) []) (List.getD (List.getD x12 (Int.toNat x0) []) (Int.toNat x6) (0 : Int)) x7 x8 x9))) with
                  | true =>
                    exact ih _ _ _ _ _ _ _ _ _ _ _ _ _ r
                  | false =>
                    intro h; cases h
              | false =>
                intro h; cases h
            | false =>
              intro h; cases h
          | false =>
            intro h; cases h
        | false =>
          intro h; cases h
      | false =>
        intro h; cases h
    | false =>
      intro h; cases h; rfl
noncomputable def sL52_16_1 : TellS := fun S => dCS 7 S fun y1 y2 y3 => dSs 0 y1 fun y5 l4 => dYl 0 y5 <| dSs 2 l4 fun y7 l6 => dPtr 6 0 y7 <| dSI 4 .i64 l6 fun x0 l8 => dSs 9 l8 fun y10 l9 => dD 26 (.list 22 (.list 3 (.int .i64))) y10 fun x1 => dSI 10 .i64 l9 fun x2 l11 => dSI 11 .i64 l11 fun x3 l12 => dSs 16 l12 fun y14 l13 => dD 22 (.list 3 (.int .i64)) y14 fun x4 => dSI 17 .i64 l13 fun x5 l15 => dSI 18 .i64 l15 fun x6 l16 => dE l16 <| dE y2 <| dC y3 fun y18 l17 => dLoop 0 none 27 161 106 y18 fun y19 => dSs 5 y19 fun y21 l20 => dPtr 1 0 y21 <| dSs 6 l20 fun y23 l22 => dPtr 2 0 y23 <| dSs 8 l22 fun y25 l24 => dPtr 3 0 y25 <| dE l24 <| dHB 22 l17 fun y27 l26 => dC y27 fun y28 l29 => dD 3 (.int .i64) y28 fun x7 => dE l29 <| dHB 4 l26 fun y31 l30 => dC y31 fun y32 l33 => dBool y32 fun x8 => dE l33 <| dHB 22 l30 fun y35 l34 => dC y35 fun y36 l37 => dG 4 y36 <| dE l37 <| dHR 3 (.int .i64) l34 fun x9 l38 => dHB 25 l38 fun y40 l39 => dC y40 fun y41 l42 => dD 3 (.int .i64) y41 fun x10 => dC l42 fun y43 l44 => dD 26 (.list 22 (.list 3 (.int .i64))) y43 fun x11 => dE l44 <| dHB 26 l39 fun y46 l45 => dC y46 fun y47 l48 => dD 22 (.list 3 (.int .i64)) y47 fun x12 => dE l48 <| dE l45 <|  some [(isL (L52_16_1 FU x0 x1 x2 x3 x4 x5 x6 x7 x8 x9 x10 x11 x12), .ret, { sl := [], lo := [], h := [.loop 2 (some .ret) 27 161 106 [(5, .v (.sc (.ptr 1 0))), (6, .v (.sc (.ptr 2 0))), (8, .v (.sc (.ptr 3 0)))], .box 22 [.d 3 (.int .i64) (x7)], .box 4 [.bool ((getL (L52_16_1 FU x0 x1 x2 x3 x4 x5 x6 x7 x8 x9 x10 x11 x12)))], .box 22 [.g 4], .row 3 (.int .i64) (x9), .box 25 [.d 3 (.int .i64) (x10), .d 26 (.list 22 (.list 3 (.int .i64))) (x11)], .box 26 [.d 22 (.list 3 (.int .i64)) (x12)]], n0 := 7, w := true }), (ok (getR (L52_16_1 FU x0 x1 x2 x3 x4 x5 x6 x7 x8 x9 x10 x11 x12)), (.exit 2), { sl := [(0, .v (.sc (.yl 0))), (2, .v (.sc (.ptr 6 0))), (9, .v (.sc (.d 26 (.list 22 (.list 3 (.int .i64))) (x1)))), (10, .v (.sc (.int .i64 (x2)))), (11, .v (.sc (.int .i64 (x3))))], lo := [], h := [.loop 0 none 27 161 106 [(5, .v (.sc (.ptr 1 0))), (6, .v (.sc (.ptr 2 0))), (8, .v (.sc (.ptr 3 0)))], .box 22 [.d 3 (.int .i64) (x7)], .box 4 [.bool (x8)], .box 22 [.g 4], .row 3 (.int .i64) (x9), .box 25 [.d 3 (.int .i64) (x10), .d 26 (.list 22 (.list 3 (.int .i64))) (x11)], .box 26 [.d 22 (.list 3 (.int .i64)) (x12)]], n0 := 7, w := false })]
theorem wL52_16_1 : NewTell Try.prog dOk base o74 t74 ((52, 16), sL52_16_1) := by
  refine ⟨.loop (codeAt Try.prog (tn0 52) 52 16), 2, by kernel_rfl, ?_⟩
  intro S alts e S' h10 h2
  have h1 : sL52_16_1 S = some alts := h10
  clear h10
  unfold sL52_16_1 at h1
  replace h1 := dCS_some h1; obtain ⟨y1, y2, y3, rfl, h1⟩ := h1
  replace h1 := dSs_some h1; obtain ⟨y5, l4, rfl, h1⟩ := h1
  replace h1 := dYl_some h1; obtain ⟨rfl, h1⟩ := h1
  replace h1 := dSs_some h1; obtain ⟨y7, l6, rfl, h1⟩ := h1
  replace h1 := dPtr_some h1; obtain ⟨rfl, h1⟩ := h1
  replace h1 := dSI_some h1; obtain ⟨x0, l8, rfl, h1⟩ := h1
  replace h1 := dSs_some h1; obtain ⟨y10, l9, rfl, h1⟩ := h1
  replace h1 := dD_some h1; obtain ⟨x1, rfl, h1⟩ := h1
  replace h1 := dSI_some h1; obtain ⟨x2, l11, rfl, h1⟩ := h1
  replace h1 := dSI_some h1; obtain ⟨x3, l12, rfl, h1⟩ := h1
  replace h1 := dSs_some h1; obtain ⟨y14, l13, rfl, h1⟩ := h1
  replace h1 := dD_some h1; obtain ⟨x4, rfl, h1⟩ := h1
  replace h1 := dSI_some h1; obtain ⟨x5, l15, rfl, h1⟩ := h1
  replace h1 := dSI_some h1; obtain ⟨x6, l16, rfl, h1⟩ := h1
  replace h1 := dE_some h1; obtain ⟨rfl, h1⟩ := h1
  replace h1 := dE_some h1; obtain ⟨rfl, h1⟩ := h1
  replace h1 := dC_some h1; obtain ⟨y18, l17, rfl, h1⟩ := h1
  replace h1 := dLoop_some h1; obtain ⟨y19, rfl, h1⟩ := h1
  replace h1 := dSs_some h1; obtain ⟨y21, l20, rfl, h1⟩ := h1
  replace h1 := dPtr_some h1; obtain ⟨rfl, h1⟩ := h1
  replace h1 := dSs_some h1; obtain ⟨y23, l22, rfl, h1⟩ := h1
  replace h1 := dPtr_some h1; obtain ⟨rfl, h1⟩ := h1
  replace h1 := dSs_some h1; obtain ⟨y25, l24, rfl, h1⟩ := h1
  replace h1 := dPtr_some h1; obtain ⟨rfl, h1⟩ := h1
  replace h1 := dE_some h1; obtain ⟨rfl, h1⟩ := h1
  replace h1 := dHB_some h1; obtain ⟨y27, l26, rfl, h1⟩ := h1
  replace h1 := dC_some h1; obtain ⟨y28, l29, rfl, h1⟩ := h1
  replace h1 := dD_some h1; obtain ⟨x7, rfl, h1⟩ := h1
  replace h1 := dE_some h1; obtain ⟨rfl, h1⟩ := h1
  replace h1 := dHB_some h1; obtain ⟨y31, l30, rfl, h1⟩ := h1
  replace h1 := dC_some h1; obtain ⟨y32, l33, rfl, h1⟩ := h1
  replace h1 := dBool_some h1; obtain ⟨x8, rfl, h1⟩ := h1
  replace h1 := dE_some h1; obtain ⟨rfl, h1⟩ := h1
  replace h1 := dHB_some h1; obtain ⟨y35, l34, rfl, h1⟩ := h1
  replace h1 := dC_some h1; obtain ⟨y36, l37, rfl, h1⟩ := h1
  replace h1 := dG_some h1; obtain ⟨rfl, h1⟩ := h1
  replace h1 := dE_some h1; obtain ⟨rfl, h1⟩ := h1
  replace h1 := dHR_some h1; obtain ⟨x9, l38, rfl, h1⟩ := h1
  replace h1 := dHB_some h1; obtain ⟨y40, l39, rfl, h1⟩ := h1
  replace h1 := dC_some h1; obtain ⟨y41, l42, rfl, h1⟩ := h1
  replace h1 := dD_some h1; obtain ⟨x10, rfl, h1⟩ := h1
  replace h1 := dC_some h1; obtain ⟨y43, l44, rfl, h1⟩ := h1
  replace h1 := dD_some h1; obtain ⟨x11, rfl, h1⟩ := h1
  replace h1 := dE_some h1; obtain ⟨rfl, h1⟩ := h1
  replace h1 := dHB_some h1; obtain ⟨y46, l45, rfl, h1⟩ := h1
  replace h1 := dC_some h1; obtain ⟨y47, l48, rfl, h1⟩ := h1
  replace h1 := dD_some h1; obtain ⟨x12, rfl, h1⟩ := h1
  replace h1 := dE_some h1; obtain ⟨rfl, h1⟩ := h1
  replace h1 := dE_some h1; obtain ⟨rfl, h1⟩ := h1
  cases h1
  rcases pick_cons h2 with ⟨hc0, rfl, rfl⟩ | h2
  · exact ⟨FU + 40, (evPiece_loop rfl).trans (lL52_16_1 FU 40 FU _ _ _ _ _ _ _ _ _ _ _ _ _ _ (isL_val hc0))⟩
  obtain ⟨hc1, rfl, rfl⟩ := pick_one h2
  exact ⟨FU + 40, (evPiece_loop rfl).trans (lL52_16_1 FU 40 FU _ _ _ _ _ _ _ _ _ _ _ _ _ _ (getR_val (ok_val hc1)))⟩
noncomputable def o75 : OrcT := o74
noncomputable def t75 : TellT := ((52, 16), sL52_16_1) :: t74
noncomputable abbrev tn75 : FuncId → TAn := mkTn base o75 t75
theorem ok75 : TnOk Try.prog tn75 (mkA base) dOk := by
  have h0 : TnOk Try.prog (mkTn base o74 t74) (mkA base) dOk := ok74
  have h1 := tn_tell h0 h0 (p := ((52, 16), sL52_16_1)) wL52_16_1
  exact h1
noncomputable def L52_0_1 : Nat → (List (List (List Int))) → Int → Int → (List Int) → Bool → (List Int) → (List Int) → (List (List (List Int))) → (List (List Int)) → Option (Bool ⊕ Unit)
  | 0, _, _, _, _, _, _, _, _, _ => none
  | n + 1, x0, x1, x2, x3, x4, x5, x6, x7, x8 => (cond (decide (x2 < x1)) (cond (decide ((0 : Int) ≤ x2)) (cond (decide (x2 < (↑(List.length x0) : Int))) (cond (isL (L52_16_1 FU x2 x0 x1 x2 (List.getD x0 (Int.toNat x2) []) (↑(List.length (List.getD x0 (Int.toNat x2) [])) : Int) (0 : Int) x3 x4 x5 x6 x7 x8)) (some (.inl (getL (L52_16_1 FU x2 x0 x1 x2 (List.getD x0 (Int.toNat x2) []) (↑(List.length (List.getD x0 (Int.toNat x2) [])) : Int) (0 : Int) x3 x4 x5 x6 x7 x8)))) (cond (ok (getR (L52_16_1 FU x2 x0 x1 x2 (List.getD x0 (Int.toNat x2) []) (↑(List.length (List.getD x0 (Int.toNat x2) [])) : Int) (0 : Int) x3 x4 x5 x6 x7 x8))) (L52_0_1 n (x0) (x1) (IntKind.wrap IntKind.i64 (x2 + (1 : Int))) (x3) (x4) (x5) (x6) (x7) (x8)) none)) none) none) (some (.inr ())))
theorem qL52_0_1 : type_of% @L52_0_1.eq_2 := @L52_0_1.eq_2
noncomputable def xL52_0_1 (x0 : (List (List (List Int)))) (x1 : Int) (x2 : Int) (x3 : (List Int)) (x4 : Bool) (x5 : (List Int)) (x6 : (List Int)) (x7 : (List (List (List Int)))) (x8 : (List (List Int))) : (Bool ⊕ Unit) → Ex × CS := fun r => match r with | .inl a0 => (.ret, { sl := [], lo := [], h := [.loop 2 (some .ret) 27 161 106 [(5, .v (.sc (.ptr 1 0))), (6, .v (.sc (.ptr 2 0))), (8, .v (.sc (.ptr 3 0)))], .box 22 [.d 3 (.int .i64) (x3)], .box 4 [.bool (a0)], .box 22 [.g 4], .row 3 (.int .i64) (x5), .box 25 [.d 3 (.int .i64) (x6), .d 26 (.list 22 (.list 3 (.int .i64))) (x7)], .box 26 [.d 22 (.list 3 (.int .i64)) (x8)]], n0 := 7, w := true }) | .inr b0 => ((.exit 0), { sl := [], lo := [], h := [.loop 0 none 27 161 106 [(5, .v (.sc (.ptr 1 0))), (6, .v (.sc (.ptr 2 0))), (8, .v (.sc (.ptr 3 0)))], .box 22 [.d 3 (.int .i64) (x3)], .box 4 [.bool (x4)], .box 22 [.g 4], .row 3 (.int .i64) (x5), .box 25 [.d 3 (.int .i64) (x6), .d 26 (.list 22 (.list 3 (.int .i64))) (x7)], .box 26 [.d 22 (.list 3 (.int .i64)) (x8)]], n0 := 7, w := false })
theorem bL52_0_1 (k : Nat) (cN : CS → Option (Ex × CS)) (cX : Ex → CS → Option (Ex × CS)) (x0 : (List (List (List Int)))) (x1 : Int) (x2 : Int) (x3 : (List Int)) (x4 : Bool) (x5 : (List Int)) (x6 : (List Int)) (x7 : (List (List (List Int)))) (x8 : (List (List Int))) : loopBody Try.prog (mkTn base o75 t75 52) (TM.evF Try.prog (mkTn base o75 t75) dOk (k + 40)) dOk (k + 40) (codeAt Try.prog (tn0 52) 52 0) 0 0 { sl := [(0, .v (.sc (.yl 0))), (2, .v (.sc (.ptr 6 0))), (9, .v (.sc (.d 26 (.list 22 (.list 3 (.int .i64))) (x0)))), (10, .v (.sc (.int .i64 (x1)))), (11, .v (.sc (.int .i64 (x2))))], lo := [], h := [.loop 0 none 27 161 106 [(5, .v (.sc (.ptr 1 0))), (6, .v (.sc (.ptr 2 0))), (8, .v (.sc (.ptr 3 0)))], .box 22 [.d 3 (.int .i64) (x3)], .box 4 [.bool (x4)], .box 22 [.g 4], .row 3 (.int .i64) (x5), .box 25 [.d 3 (.int .i64) (x6), .d 26 (.list 22 (.list 3 (.int .i64))) (x7)], .box 26 [.d 22 (.list 3 (.int .i64)) (x8)]], n0 := 7, w := false } cN cX = (cond (decide (x2 < x1)) (cond (decide ((0 : Int) ≤ x2)) (cond (decide (x2 < (↑(List.length x0) : Int))) (cond (isL (L52_16_1 FU x2 x0 x1 x2 (List.getD x0 (Int.toNat x2) []) (↑(List.length (List.getD x0 (Int.toNat x2) [])) : Int) (0 : Int) x3 x4 x5 x6 x7 x8)) (cX .ret { sl := [], lo := [], h := [.loop 2 (some .ret) 27 161 106 [(5, .v (.sc (.ptr 1 0))), (6, .v (.sc (.ptr 2 0))), (8, .v (.sc (.ptr 3 0)))], .box 22 [.d 3 (.int .i64) (x3)], .box 4 [.bool (getL (L52_16_1 FU x2 x0 x1 x2 (List.getD x0 (Int.toNat x2) []) (↑(List.length (List.getD x0 (Int.toNat x2) [])) : Int) (0 : Int) x3 x4 x5 x6 x7 x8))], .box 22 [.g 4], .row 3 (.int .i64) (x5), .box 25 [.d 3 (.int .i64) (x6), .d 26 (.list 22 (.list 3 (.int .i64))) (x7)], .box 26 [.d 22 (.list 3 (.int .i64)) (x8)]], n0 := 7, w := true }) (cond (ok (getR (L52_16_1 FU x2 x0 x1 x2 (List.getD x0 (Int.toNat x2) []) (↑(List.length (List.getD x0 (Int.toNat x2) [])) : Int) (0 : Int) x3 x4 x5 x6 x7 x8))) (cN { sl := [(0, .v (.sc (.yl 0))), (2, .v (.sc (.ptr 6 0))), (9, .v (.sc (.d 26 (.list 22 (.list 3 (.int .i64))) (x0)))), (10, .v (.sc (.int .i64 (x1)))), (11, .v (.sc (.int .i64 (IntKind.wrap IntKind.i64 (x2 + (1 : Int))))))], lo := [], h := [.loop 0 none 27 161 106 [(5, .v (.sc (.ptr 1 0))), (6, .v (.sc (.ptr 2 0))), (8, .v (.sc (.ptr 3 0)))], .box 22 [.d 3 (.int .i64) (x3)], .box 4 [.bool (x4)], .box 22 [.g 4], .row 3 (.int .i64) (x5), .box 25 [.d 3 (.int .i64) (x6), .d 26 (.list 22 (.list 3 (.int .i64))) (x7)], .box 26 [.d 22 (.list 3 (.int .i64)) (x8)]], n0 := 7, w := false }) none)) none) none) (cX (.exit 0) { sl := [], lo := [], h := [.loop 0 none 27 161 106 [(5, .v (.sc (.ptr 1 0))), (6, .v (.sc (.ptr 2 0))), (8, .v (.sc (.ptr 3 0)))], .box 22 [.d 3 (.int .i64) (x3)], .box 4 [.bool (x4)], .box 22 [.g 4], .row 3 (.int .i64) (x5), .box 25 [.d 3 (.int .i64) (x6), .d 26 (.list 22 (.list 3 (.int .i64))) (x7)], .box 26 [.d 22 (.list 3 (.int .i64)) (x8)]], n0 := 7, w := false })) := by kernel_rfl
theorem lL52_0_1 (k m : Nat) : ∀ (n : Nat) (x0 : (List (List (List Int)))) (x1 : Int) (x2 : Int) (x3 : (List Int)) (x4 : Bool) (x5 : (List Int)) (x6 : (List Int)) (x7 : (List (List (List Int)))) (x8 : (List (List Int))) (r : (Bool ⊕ Unit)), L52_0_1 n x0 x1 x2 x3 x4 x5 x6 x7 x8 = some r → loopE Try.prog (mkTn base o75 t75 52) (TM.evF Try.prog (mkTn base o75 t75) dOk (k + 40)) dOk (k + 40) (codeAt Try.prog (tn0 52) 52 0) 0 0 (n + m) { sl := [(0, .v (.sc (.yl 0))), (2, .v (.sc (.ptr 6 0))), (9, .v (.sc (.d 26 (.list 22 (.list 3 (.int .i64))) (x0)))), (10, .v (.sc (.int .i64 (x1)))), (11, .v (.sc (.int .i64 (x2))))], lo := [], h := [.loop 0 none 27 161 106 [(5, .v (.sc (.ptr 1 0))), (6, .v (.sc (.ptr 2 0))), (8, .v (.sc (.ptr 3 0)))], .box 22 [.d 3 (.int .i64) (x3)], .box 4 [.bool (x4)], .box 22 [.g 4], .row 3 (.int .i64) (x5), .box 25 [.d 3 (.int .i64) (x6), .d 26 (.list 22 (.list 3 (.int .i64))) (x7)], .box 26 [.d 22 (.list 3 (.int .i64)) (x8)]], n0 := 7, w := false } = some (xL52_0_1 x0 x1 x2 x3 x4 x5 x6 x7 x8 r) := by
  intro n
  induction n with
  | zero => intro _ _ _ _ _ _ _ _ _ r h; cases h
  | succ n ih =>
    intro x0 x1 x2 x3 x4 x5 x6 x7 x8 r
    rw [show n + 1 + m = n + m + 1 by omega, loop_step, bL52_0_1, qL52_0_1]
    cases (decide (x2 < x1)) with
    | true =>
      cases (decide ((0 : Int) ≤ x2)) with
      | true =>
        cases (decide (x2 < (↑(List.length x0) : Int))) with
        | true =>
          cases (isL (L52_16_1 FU x2 x0 x1 x2 (List.getD x0 (Int.toNat x2) []) (↑(List.length (List.getD x0 (Int.toNat x2) [])) : Int) (0 : Int) x3 x4 x5 x6 x7 x8)) with
          | true =>
            intro h; cases h; rfl
          | false =>
            cases (ok (getR (L52_16_1 FU x2 x0 x1 x2 (List.getD x0 (Int.toNat x2) []) (↑(List.length (List.getD x0 (Int.toNat x2) [])) : Int) (0 : Int) x3 x4 x5 x6 x7 x8))) with
            | true =>
              exact ih _ _ _ _ _ _ _ _ _ r
            | false =>
              intro h; cases h
        | false =>
          intro h; cases h
      | false =>
        intro h; cases h
    | false =>
      intro h; cases h; rfl
noncomputable def sL52_0_1 : TellS := fun S => dCS 7 S fun y1 y2 y3 => dSs 0 y1 fun y5 l4 => dYl 0 y5 <| dSs 2 l4 fun y7 l6 => dPtr 6 0 y7 <| dSs 9 l6 fun y9 l8 => dD 26 (.list 22 (.list 3 (.int .i64))) y9 fun x0 => dSI 10 .i64 l8 fun x1 l10 => dSI 11 .i64 l10 fun x2 l11 => dE l11 <| dE y2 <| dC y3 fun y13 l12 => dLoop 0 none 27 161 106 y13 fun y14 => dSs 5 y14 fun y16 l15 => dPtr 1 0 y16 <| dSs 6 l15 fun y18 l17 => dPtr 2 0 y18 <| dSs 8 l17 fun y20 l19 => dPtr 3 0 y20 <| dE l19 <| dHB 22 l12 fun y22 l21 => dC y22 fun y23 l24 => dD 3 (.int .i64) y23 fun x3 => dE l24 <| dHB 4 l21 fun y26 l25 => dC y26 fun y27 l28 => dBool y27 fun x4 => dE l28 <| dHB 22 l25 fun y30 l29 => dC y30 fun y31 l32 => dG 4 y31 <| dE l32 <| dHR 3 (.int .i64) l29 fun x5 l33 => dHB 25 l33 fun y35 l34 => dC y35 fun y36 l37 => dD 3 (.int .i64) y36 fun x6 => dC l37 fun y38 l39 => dD 26 (.list 22 (.list 3 (.int .i64))) y38 fun x7 => dE l39 <| dHB 26 l34 fun y41 l40 => dC y41 fun y42 l43 => dD 22 (.list 3 (.int .i64)) y42 fun x8 => dE l43 <| dE l40 <|  some [(isL (L52_0_1 FU x0 x1 x2 x3 x4 x5 x6 x7 x8), .ret, { sl := [], lo := [], h := [.loop 2 (some .ret) 27 161 106 [(5, .v (.sc (.ptr 1 0))), (6, .v (.sc (.ptr 2 0))), (8, .v (.sc (.ptr 3 0)))], .box 22 [.d 3 (.int .i64) (x3)], .box 4 [.bool ((getL (L52_0_1 FU x0 x1 x2 x3 x4 x5 x6 x7 x8)))], .box 22 [.g 4], .row 3 (.int .i64) (x5), .box 25 [.d 3 (.int .i64) (x6), .d 26 (.list 22 (.list 3 (.int .i64))) (x7)], .box 26 [.d 22 (.list 3 (.int .i64)) (x8)]], n0 := 7, w := true }), (ok (getR (L52_0_1 FU x0 x1 x2 x3 x4 x5 x6 x7 x8)), (.exit 0), { sl := [], lo := [], h := [.loop 0 none 27 161 106 [(5, .v (.sc (.ptr 1 0))), (6, .v (.sc (.ptr 2 0))), (8, .v (.sc (.ptr 3 0)))], .box 22 [.d 3 (.int .i64) (x3)], .box 4 [.bool (x4)], .box 22 [.g 4], .row 3 (.int .i64) (x5), .box 25 [.d 3 (.int .i64) (x6), .d 26 (.list 22 (.list 3 (.int .i64))) (x7)], .box 26 [.d 22 (.list 3 (.int .i64)) (x8)]], n0 := 7, w := false })]
theorem wL52_0_1 : NewTell Try.prog dOk base o75 t75 ((52, 0), sL52_0_1) := by
  refine ⟨.loop (codeAt Try.prog (tn0 52) 52 0), 0, by kernel_rfl, ?_⟩
  intro S alts e S' h10 h2
  have h1 : sL52_0_1 S = some alts := h10
  clear h10
  unfold sL52_0_1 at h1
  replace h1 := dCS_some h1; obtain ⟨y1, y2, y3, rfl, h1⟩ := h1
  replace h1 := dSs_some h1; obtain ⟨y5, l4, rfl, h1⟩ := h1
  replace h1 := dYl_some h1; obtain ⟨rfl, h1⟩ := h1
  replace h1 := dSs_some h1; obtain ⟨y7, l6, rfl, h1⟩ := h1
  replace h1 := dPtr_some h1; obtain ⟨rfl, h1⟩ := h1
  replace h1 := dSs_some h1; obtain ⟨y9, l8, rfl, h1⟩ := h1
  replace h1 := dD_some h1; obtain ⟨x0, rfl, h1⟩ := h1
  replace h1 := dSI_some h1; obtain ⟨x1, l10, rfl, h1⟩ := h1
  replace h1 := dSI_some h1; obtain ⟨x2, l11, rfl, h1⟩ := h1
  replace h1 := dE_some h1; obtain ⟨rfl, h1⟩ := h1
  replace h1 := dE_some h1; obtain ⟨rfl, h1⟩ := h1
  replace h1 := dC_some h1; obtain ⟨y13, l12, rfl, h1⟩ := h1
  replace h1 := dLoop_some h1; obtain ⟨y14, rfl, h1⟩ := h1
  replace h1 := dSs_some h1; obtain ⟨y16, l15, rfl, h1⟩ := h1
  replace h1 := dPtr_some h1; obtain ⟨rfl, h1⟩ := h1
  replace h1 := dSs_some h1; obtain ⟨y18, l17, rfl, h1⟩ := h1
  replace h1 := dPtr_some h1; obtain ⟨rfl, h1⟩ := h1
  replace h1 := dSs_some h1; obtain ⟨y20, l19, rfl, h1⟩ := h1
  replace h1 := dPtr_some h1; obtain ⟨rfl, h1⟩ := h1
  replace h1 := dE_some h1; obtain ⟨rfl, h1⟩ := h1
  replace h1 := dHB_some h1; obtain ⟨y22, l21, rfl, h1⟩ := h1
  replace h1 := dC_some h1; obtain ⟨y23, l24, rfl, h1⟩ := h1
  replace h1 := dD_some h1; obtain ⟨x3, rfl, h1⟩ := h1
  replace h1 := dE_some h1; obtain ⟨rfl, h1⟩ := h1
  replace h1 := dHB_some h1; obtain ⟨y26, l25, rfl, h1⟩ := h1
  replace h1 := dC_some h1; obtain ⟨y27, l28, rfl, h1⟩ := h1
  replace h1 := dBool_some h1; obtain ⟨x4, rfl, h1⟩ := h1
  replace h1 := dE_some h1; obtain ⟨rfl, h1⟩ := h1
  replace h1 := dHB_some h1; obtain ⟨y30, l29, rfl, h1⟩ := h1
  replace h1 := dC_some h1; obtain ⟨y31, l32, rfl, h1⟩ := h1
  replace h1 := dG_some h1; obtain ⟨rfl, h1⟩ := h1
  replace h1 := dE_some h1; obtain ⟨rfl, h1⟩ := h1
  replace h1 := dHR_some h1; obtain ⟨x5, l33, rfl, h1⟩ := h1
  replace h1 := dHB_some h1; obtain ⟨y35, l34, rfl, h1⟩ := h1
  replace h1 := dC_some h1; obtain ⟨y36, l37, rfl, h1⟩ := h1
  replace h1 := dD_some h1; obtain ⟨x6, rfl, h1⟩ := h1
  replace h1 := dC_some h1; obtain ⟨y38, l39, rfl, h1⟩ := h1
  replace h1 := dD_some h1; obtain ⟨x7, rfl, h1⟩ := h1
  replace h1 := dE_some h1; obtain ⟨rfl, h1⟩ := h1
  replace h1 := dHB_some h1; obtain ⟨y41, l40, rfl, h1⟩ := h1
  replace h1 := dC_some h1; obtain ⟨y42, l43, rfl, h1⟩ := h1
  replace h1 := dD_some h1; obtain ⟨x8, rfl, h1⟩ := h1
  replace h1 := dE_some h1; obtain ⟨rfl, h1⟩ := h1
  replace h1 := dE_some h1; obtain ⟨rfl, h1⟩ := h1
  cases h1
  rcases pick_cons h2 with ⟨hc0, rfl, rfl⟩ | h2
  · exact ⟨FU + 40, (evPiece_loop rfl).trans (lL52_0_1 FU 40 FU _ _ _ _ _ _ _ _ _ _ (isL_val hc0))⟩
  obtain ⟨hc1, rfl, rfl⟩ := pick_one h2
  exact ⟨FU + 40, (evPiece_loop rfl).trans (lL52_0_1 FU 40 FU _ _ _ _ _ _ _ _ _ _ (getR_val (ok_val hc1)))⟩
noncomputable def o76 : OrcT := o75
noncomputable def t76 : TellT := ((52, 0), sL52_0_1) :: t75
noncomputable abbrev tn76 : FuncId → TAn := mkTn base o76 t76
theorem ok76 : TnOk Try.prog tn76 (mkA base) dOk := by
  have h0 : TnOk Try.prog (mkTn base o75 t75) (mkA base) dOk := ok75
  have h1 := tn_tell h0 h0 (p := ((52, 0), sL52_0_1)) wL52_0_1
  exact h1
noncomputable def v52_1 (x0 : (List Int)) (x1 : Bool) (x2 : (List Int)) (x3 : (List Int)) (x4 : (List (List (List Int)))) (x5 : (List (List Int))) : Option (Bool ⊕ Unit) := (cond (isL (L52_0_1 FU x4 (↑(List.length x4) : Int) (0 : Int) x0 x1 x2 x3 x4 x5)) (some (.inl (getL (L52_0_1 FU x4 (↑(List.length x4) : Int) (0 : Int) x0 x1 x2 x3 x4 x5)))) (cond (ok (getR (L52_0_1 FU x4 (↑(List.length x4) : Int) (0 : Int) x0 x1 x2 x3 x4 x5))) (some (.inr ())) none))
noncomputable def xv52_1 (x0 : (List Int)) (x1 : Bool) (x2 : (List Int)) (x3 : (List Int)) (x4 : (List (List (List Int)))) (x5 : (List (List Int))) : (Bool ⊕ Unit) → List TA × TH := fun r => match r with | .inl a0 => ([], [.loop 2 (some .ret) 27 161 106 [(5, .v (.sc (.ptr 1 0))), (6, .v (.sc (.ptr 2 0))), (8, .v (.sc (.ptr 3 0)))], .box 22 [.d 3 (.int .i64) (x0)], .box 4 [.bool (a0)], .box 22 [.g 4], .row 3 (.int .i64) (x2), .box 25 [.d 3 (.int .i64) (x3), .d 26 (.list 22 (.list 3 (.int .i64))) (x4)], .box 26 [.d 22 (.list 3 (.int .i64)) (x5)]]) | .inr b0 => ([], [.loop 0 none 27 161 106 [(5, .v (.sc (.ptr 1 0))), (6, .v (.sc (.ptr 2 0))), (8, .v (.sc (.ptr 3 0)))], .box 22 [.d 3 (.int .i64) (x0)], .box 4 [.bool (x1)], .box 22 [.g 4], .row 3 (.int .i64) (x2), .box 25 [.d 3 (.int .i64) (x3), .d 26 (.list 22 (.list 3 (.int .i64))) (x4)], .box 26 [.d 22 (.list 3 (.int .i64)) (x5)]])
theorem ev52_1 (x0 : (List Int)) (x1 : Bool) (x2 : (List Int)) (x3 : (List Int)) (x4 : (List (List (List Int)))) (x5 : (List (List Int))) : fnBody Try.prog (mkTn base o76 t76 52) (TM.evF Try.prog (mkTn base o76 t76) dOk 40) dOk 40 52 [.sc (.yl 0), .sc (.ptr 5 0), .sc (.ptr 6 0)] [.loop 0 none 27 161 106 [(5, .v (.sc (.ptr 1 0))), (6, .v (.sc (.ptr 2 0))), (8, .v (.sc (.ptr 3 0)))], .box 22 [.d 3 (.int .i64) (x0)], .box 4 [.bool (x1)], .box 22 [.g 4], .row 3 (.int .i64) (x2), .box 25 [.d 3 (.int .i64) (x3), .d 26 (.list 22 (.list 3 (.int .i64))) (x4)], .box 26 [.d 22 (.list 3 (.int .i64)) (x5)]] = (v52_1 x0 x1 x2 x3 x4 x5).bind fun r => some (xv52_1 x0 x1 x2 x3 x4 x5 r) := by
  refine Eq.trans (b := (cond (isL (L52_0_1 FU x4 (↑(List.length x4) : Int) (0 : Int) x0 x1 x2 x3 x4 x5)) (some ([], [.loop 2 (some .ret) 27 161 106 [(5, .v (.sc (.ptr 1 0))), (6, .v (.sc (.ptr 2 0))), (8, .v (.sc (.ptr 3 0)))], .box 22 [.d 3 (.int .i64) (x0)], .box 4 [.bool (getL (L52_0_1 FU x4 (↑(List.length x4) : Int) (0 : Int) x0 x1 x2 x3 x4 x5))], .box 22 [.g 4], .row 3 (.int .i64) (x2), .box 25 [.d 3 (.int .i64) (x3), .d 26 (.list 22 (.list 3 (.int .i64))) (x4)], .box 26 [.d 22 (.list 3 (.int .i64)) (x5)]])) (cond (ok (getR (L52_0_1 FU x4 (↑(List.length x4) : Int) (0 : Int) x0 x1 x2 x3 x4 x5))) (some ([], [.loop 0 none 27 161 106 [(5, .v (.sc (.ptr 1 0))), (6, .v (.sc (.ptr 2 0))), (8, .v (.sc (.ptr 3 0)))], .box 22 [.d 3 (.int .i64) (x0)], .box 4 [.bool (x1)], .box 22 [.g 4], .row 3 (.int .i64) (x2), .box 25 [.d 3 (.int .i64) (x3), .d 26 (.list 22 (.list 3 (.int .i64))) (x4)], .box 26 [.d 22 (.list 3 (.int .i64)) (x5)]])) none))) (by kernel_rfl) ?_
  unfold v52_1
  cases (isL (L52_0_1 FU x4 (↑(List.length x4) : Int) (0 : Int) x0 x1 x2 x3 x4 x5)) with
  | true =>
    rfl
  | false =>
    cases (ok (getR (L52_0_1 FU x4 (↑(List.length x4) : Int) (0 : Int) x0 x1 x2 x3 x4 x5))) with
    | true =>
      rfl
    | false =>
      rfl
noncomputable def sv52_1 : OrcS := fun al H => dC al fun y1 l2 => dS y1 fun y3 => dYl 0 y3 <| dC l2 fun y4 l5 => dS y4 fun y6 => dPtr 5 0 y6 <| dC l5 fun y7 l8 => dS y7 fun y9 => dPtr 6 0 y9 <| dE l8 <| dC H fun y11 l10 => dLoop 0 none 27 161 106 y11 fun y12 => dSs 5 y12 fun y14 l13 => dPtr 1 0 y14 <| dSs 6 l13 fun y16 l15 => dPtr 2 0 y16 <| dSs 8 l15 fun y18 l17 => dPtr 3 0 y18 <| dE l17 <| dHB 22 l10 fun y20 l19 => dC y20 fun y21 l22 => dD 3 (.int .i64) y21 fun x0 => dE l22 <| dHB 4 l19 fun y24 l23 => dC y24 fun y25 l26 => dBool y25 fun x1 => dE l26 <| dHB 22 l23 fun y28 l27 => dC y28 fun y29 l30 => dG 4 y29 <| dE l30 <| dHR 3 (.int .i64) l27 fun x2 l31 => dHB 25 l31 fun y33 l32 => dC y33 fun y34 l35 => dD 3 (.int .i64) y34 fun x3 => dC l35 fun y36 l37 => dD 26 (.list 22 (.list 3 (.int .i64))) y36 fun x4 => dE l37 <| dHB 26 l32 fun y39 l38 => dC y39 fun y40 l41 => dD 22 (.list 3 (.int .i64)) y40 fun x5 => dE l41 <| dE l38 <|  some [(isL (v52_1 x0 x1 x2 x3 x4 x5), [], [.loop 2 (some .ret) 27 161 106 [(5, .v (.sc (.ptr 1 0))), (6, .v (.sc (.ptr 2 0))), (8, .v (.sc (.ptr 3 0)))], .box 22 [.d 3 (.int .i64) (x0)], .box 4 [.bool ((getL (v52_1 x0 x1 x2 x3 x4 x5)))], .box 22 [.g 4], .row 3 (.int .i64) (x2), .box 25 [.d 3 (.int .i64) (x3), .d 26 (.list 22 (.list 3 (.int .i64))) (x4)], .box 26 [.d 22 (.list 3 (.int .i64)) (x5)]]), (ok (getR (v52_1 x0 x1 x2 x3 x4 x5)), [], [.loop 0 none 27 161 106 [(5, .v (.sc (.ptr 1 0))), (6, .v (.sc (.ptr 2 0))), (8, .v (.sc (.ptr 3 0)))], .box 22 [.d 3 (.int .i64) (x0)], .box 4 [.bool (x1)], .box 22 [.g 4], .row 3 (.int .i64) (x2), .box 25 [.d 3 (.int .i64) (x3), .d 26 (.list 22 (.list 3 (.int .i64))) (x4)], .box 26 [.d 22 (.list 3 (.int .i64)) (x5)]])]
theorem wv52_1 : NewOrc Try.prog dOk base o76 t76 (52, sv52_1) := by
  intro al H q hq0 rs H2 h2
  have hq : sv52_1 al H = some q := hq0
  clear hq0
  unfold sv52_1 at hq
  replace hq := dC_some hq; obtain ⟨y1, l2, rfl, hq⟩ := hq
  replace hq := dS_some hq; obtain ⟨y3, rfl, hq⟩ := hq
  replace hq := dYl_some hq; obtain ⟨rfl, hq⟩ := hq
  replace hq := dC_some hq; obtain ⟨y4, l5, rfl, hq⟩ := hq
  replace hq := dS_some hq; obtain ⟨y6, rfl, hq⟩ := hq
  replace hq := dPtr_some hq; obtain ⟨rfl, hq⟩ := hq
  replace hq := dC_some hq; obtain ⟨y7, l8, rfl, hq⟩ := hq
  replace hq := dS_some hq; obtain ⟨y9, rfl, hq⟩ := hq
  replace hq := dPtr_some hq; obtain ⟨rfl, hq⟩ := hq
  replace hq := dE_some hq; obtain ⟨rfl, hq⟩ := hq
  replace hq := dC_some hq; obtain ⟨y11, l10, rfl, hq⟩ := hq
  replace hq := dLoop_some hq; obtain ⟨y12, rfl, hq⟩ := hq
  replace hq := dSs_some hq; obtain ⟨y14, l13, rfl, hq⟩ := hq
  replace hq := dPtr_some hq; obtain ⟨rfl, hq⟩ := hq
  replace hq := dSs_some hq; obtain ⟨y16, l15, rfl, hq⟩ := hq
  replace hq := dPtr_some hq; obtain ⟨rfl, hq⟩ := hq
  replace hq := dSs_some hq; obtain ⟨y18, l17, rfl, hq⟩ := hq
  replace hq := dPtr_some hq; obtain ⟨rfl, hq⟩ := hq
  replace hq := dE_some hq; obtain ⟨rfl, hq⟩ := hq
  replace hq := dHB_some hq; obtain ⟨y20, l19, rfl, hq⟩ := hq
  replace hq := dC_some hq; obtain ⟨y21, l22, rfl, hq⟩ := hq
  replace hq := dD_some hq; obtain ⟨x0, rfl, hq⟩ := hq
  replace hq := dE_some hq; obtain ⟨rfl, hq⟩ := hq
  replace hq := dHB_some hq; obtain ⟨y24, l23, rfl, hq⟩ := hq
  replace hq := dC_some hq; obtain ⟨y25, l26, rfl, hq⟩ := hq
  replace hq := dBool_some hq; obtain ⟨x1, rfl, hq⟩ := hq
  replace hq := dE_some hq; obtain ⟨rfl, hq⟩ := hq
  replace hq := dHB_some hq; obtain ⟨y28, l27, rfl, hq⟩ := hq
  replace hq := dC_some hq; obtain ⟨y29, l30, rfl, hq⟩ := hq
  replace hq := dG_some hq; obtain ⟨rfl, hq⟩ := hq
  replace hq := dE_some hq; obtain ⟨rfl, hq⟩ := hq
  replace hq := dHR_some hq; obtain ⟨x2, l31, rfl, hq⟩ := hq
  replace hq := dHB_some hq; obtain ⟨y33, l32, rfl, hq⟩ := hq
  replace hq := dC_some hq; obtain ⟨y34, l35, rfl, hq⟩ := hq
  replace hq := dD_some hq; obtain ⟨x3, rfl, hq⟩ := hq
  replace hq := dC_some hq; obtain ⟨y36, l37, rfl, hq⟩ := hq
  replace hq := dD_some hq; obtain ⟨x4, rfl, hq⟩ := hq
  replace hq := dE_some hq; obtain ⟨rfl, hq⟩ := hq
  replace hq := dHB_some hq; obtain ⟨y39, l38, rfl, hq⟩ := hq
  replace hq := dC_some hq; obtain ⟨y40, l41, rfl, hq⟩ := hq
  replace hq := dD_some hq; obtain ⟨x5, rfl, hq⟩ := hq
  replace hq := dE_some hq; obtain ⟨rfl, hq⟩ := hq
  replace hq := dE_some hq; obtain ⟨rfl, hq⟩ := hq
  cases hq
  rcases pickR_cons h2 with ⟨hc0, rfl, rfl⟩ | h2
  · exact ⟨41, (fn_eq (by kernel_rfl)).trans ((ev52_1 _ _ _ _ _ _).trans (bind_of (isL_val hc0)))⟩
  obtain ⟨hc1, rfl, rfl⟩ := pickR_one h2
  exact ⟨41, (fn_eq (by kernel_rfl)).trans ((ev52_1 _ _ _ _ _ _).trans (bind_of (getR_val (ok_val hc1))))⟩
noncomputable def o77 : OrcT := (52, sv52_1) :: o76
noncomputable def t77 : TellT := t76
noncomputable abbrev tn77 : FuncId → TAn := mkTn base o77 t77
theorem ok77 : TnOk Try.prog tn77 (mkA base) dOk := by
  have h0 : TnOk Try.prog (mkTn base o76 t76) (mkA base) dOk := ok76
  have h1 := tn_orc h0 h0 (p := (52, sv52_1)) wv52_1
  exact h1
noncomputable def v27 (x0 : (List Int)) (x1 : (List (List (List Int)))) (x2 : (List (List Int))) (x3 : (List Int)) : Option Bool := (cond (decide ((↑(List.length x0) : Int) ≤ (↑(List.length x0) : Int))) (cond (decide ((↑(List.length x0) : Int) ≤ (↑(nat_lit 2147483648) : Int))) (cond (decide ((↑(List.length x1) : Int) ≤ (↑(List.length x1) : Int))) (cond (decide ((↑(List.length x1) : Int) ≤ (↑(nat_lit 2147483648) : Int))) (cond (ok (v52 (List.replicate (Int.toNat (↑(List.length x0) : Int)) (0 : Int)) (List.replicate (Int.toNat (↑(List.length x1) : Int)) (0 : Int)) x0 x1 x2)) (cond (isL (L27_32_0 FU x2 (↑(List.length (Prod.fst (val (v52 (List.replicate (Int.toNat (↑(List.length x0) : Int)) (0 : Int)) (List.replicate (Int.toNat (↑(List.length x1) : Int)) (0 : Int)) x0 x1 x2)))) : Int) (0 : Int) x0 x1 (Prod.snd (val (v52 (List.replicate (Int.toNat (↑(List.length x0) : Int)) (0 : Int)) (List.replicate (Int.toNat (↑(List.length x1) : Int)) (0 : Int)) x0 x1 x2))) false (Prod.fst (val (v52 (List.replicate (Int.toNat (↑(List.length x0) : Int)) (0 : Int)) (List.replicate (Int.toNat (↑(List.length x1) : Int)) (0 : Int)) x0 x1 x2))) x3)) (some (getL (L27_32_0 FU x2 (↑(List.length (Prod.fst (val (v52 (List.replicate (Int.toNat (↑(List.length x0) : Int)) (0 : Int)) (List.replicate (Int.toNat (↑(List.length x1) : Int)) (0 : Int)) x0 x1 x2)))) : Int) (0 : Int) x0 x1 (Prod.snd (val (v52 (List.replicate (Int.toNat (↑(List.length x0) : Int)) (0 : Int)) (List.replicate (Int.toNat (↑(List.length x1) : Int)) (0 : Int)) x0 x1 x2))) false (Prod.fst (val (v52 (List.replicate (Int.toNat (↑(List.length x0) : Int)) (0 : Int)) (List.replicate (Int.toNat (↑(List.length x1) : Int)) (0 : Int)) x0 x1 x2))) x3))) (cond (ok (getR (L27_32_0 FU x2 (↑(List.length (Prod.fst (val (v52 (List.replicate (Int.toNat (↑(List.length x0) : Int)) (0 : Int)) (List.replicate (Int.toNat (↑(List.length x1) : Int)) (0 : Int)) x0 x1 x2)))) : Int) (0 : Int) x0 x1 (Prod.snd (val (v52 (List.replicate (Int.toNat (↑(List.length x0) : Int)) (0 : Int)) (List.replicate (Int.toNat (↑(List.length x1) : Int)) (0 : Int)) x0 x1 x2))) false (Prod.fst (val (v52 (List.replicate (Int.toNat (↑(List.length x0) : Int)) (0 : Int)) (List.replicate (Int.toNat (↑(List.length x1) : Int)) (0 : Int)) x0 x1 x2))) x3))) (cond (isL (v52_1 x3 false (Prod.snd (val (v52 (List.replicate (Int.toNat (↑(List.length x0) : Int)) (0 : Int)) (List.replicate (Int.toNat (↑(List.length x1) : Int)) (0 : Int)) x0 x1 x2))) x0 x1 x2)) (some (getL (v52_1 x3 false (Prod.snd (val (v52 (List.replicate (Int.toNat (↑(List.length x0) : Int)) (0 : Int)) (List.replicate (Int.toNat (↑(List.length x1) : Int)) (0 : Int)) x0 x1 x2))) x0 x1 x2))) (cond (ok (getR (v52_1 x3 false (Prod.snd (val (v52 (List.replicate (Int.toNat (↑(List.length x0) : Int)) (0 : Int)) (List.replicate (Int.toNat (↑(List.length x1) : Int)) (0 : Int)) x0 x1 x2))) x0 x1 x2))) (some (true)) none)) none)) none) none) none) none) none)
theorem ev27 (x0 : (List Int)) (x1 : (List (List (List Int)))) (x2 : (List (List Int))) (x3 : (List Int)) : fnBody Try.prog (mkTn base o77 t77 27) (TM.evF Try.prog (mkTn base o77 t77) dOk 40) dOk 40 27 [.agg [.d 3 (.int .i64) (x0), .d 26 (.list 22 (.list 3 (.int .i64))) (x1)], .sc (.d 22 (.list 3 (.int .i64)) (x2)), .sc (.d 3 (.int .i64) (x3))] [] = (v27 x0 x1 x2 x3).bind fun r => some ([.sc (.bool (r))], []) := by
  refine Eq.trans (b := (cond (decide ((↑(List.length x0) : Int) ≤ (↑(List.length x0) : Int))) (cond (decide ((↑(List.length x0) : Int) ≤ (↑(nat_lit 2147483648) : Int))) (cond (decide ((↑(List.length x1) : Int) ≤ (↑(List.length x1) : Int))) (cond (decide ((↑(List.length x1) : Int) ≤ (↑(nat_lit 2147483648) : Int))) (cond (ok (v52 (List.replicate (Int.toNat (↑(List.length x0) : Int)) (0 : Int)) (List.replicate (Int.toNat (↑(List.length x1) : Int)) (0 : Int)) x0 x1 x2)) (cond (isL (L27_32_0 FU x2 (↑(List.length (Prod.fst (val (v52 (List.replicate (Int.toNat (↑(List.length x0) : Int)) (0 : Int)) (List.replicate (Int.toNat (↑(List.length x1) : Int)) (0 : Int)) x0 x1 x2)))) : Int) (0 : Int) x0 x1 (Prod.snd (val (v52 (List.replicate (Int.toNat (↑(List.length x0) : Int)) (0 : Int)) (List.replicate (Int.toNat (↑(List.length x1) : Int)) (0 : Int)) x0 x1 x2))) false (Prod.fst (val (v52 (List.replicate (Int.toNat (↑(List.length x0) : Int)) (0 : Int)) (List.replicate (Int.toNat (↑(List.length x1) : Int)) (0 : Int)) x0 x1 x2))) x3)) (some ([.sc (.bool (getL (L27_32_0 FU x2 (↑(List.length (Prod.fst (val (v52 (List.replicate (Int.toNat (↑(List.length x0) : Int)) (0 : Int)) (List.replicate (Int.toNat (↑(List.length x1) : Int)) (0 : Int)) x0 x1 x2)))) : Int) (0 : Int) x0 x1 (Prod.snd (val (v52 (List.replicate (Int.toNat (↑(List.length x0) : Int)) (0 : Int)) (List.replicate (Int.toNat (↑(List.length x1) : Int)) (0 : Int)) x0 x1 x2))) false (Prod.fst (val (v52 (List.replicate (Int.toNat (↑(List.length x0) : Int)) (0 : Int)) (List.replicate (Int.toNat (↑(List.length x1) : Int)) (0 : Int)) x0 x1 x2))) x3)))], [])) (cond (ok (getR (L27_32_0 FU x2 (↑(List.length (Prod.fst (val (v52 (List.replicate (Int.toNat (↑(List.length x0) : Int)) (0 : Int)) (List.replicate (Int.toNat (↑(List.length x1) : Int)) (0 : Int)) x0 x1 x2)))) : Int) (0 : Int) x0 x1 (Prod.snd (val (v52 (List.replicate (Int.toNat (↑(List.length x0) : Int)) (0 : Int)) (List.replicate (Int.toNat (↑(List.length x1) : Int)) (0 : Int)) x0 x1 x2))) false (Prod.fst (val (v52 (List.replicate (Int.toNat (↑(List.length x0) : Int)) (0 : Int)) (List.replicate (Int.toNat (↑(List.length x1) : Int)) (0 : Int)) x0 x1 x2))) x3))) (cond (isL (v52_1 x3 false (Prod.snd (val (v52 (List.replicate (Int.toNat (↑(List.length x0) : Int)) (0 : Int)) (List.replicate (Int.toNat (↑(List.length x1) : Int)) (0 : Int)) x0 x1 x2))) x0 x1 x2)) (some ([.sc (.bool (getL (v52_1 x3 false (Prod.snd (val (v52 (List.replicate (Int.toNat (↑(List.length x0) : Int)) (0 : Int)) (List.replicate (Int.toNat (↑(List.length x1) : Int)) (0 : Int)) x0 x1 x2))) x0 x1 x2)))], [])) (cond (ok (getR (v52_1 x3 false (Prod.snd (val (v52 (List.replicate (Int.toNat (↑(List.length x0) : Int)) (0 : Int)) (List.replicate (Int.toNat (↑(List.length x1) : Int)) (0 : Int)) x0 x1 x2))) x0 x1 x2))) (some ([.sc (.bool (true))], [])) none)) none)) none) none) none) none) none)) (by kernel_rfl) ?_
  unfold v27
  cases (decide ((↑(List.length x0) : Int) ≤ (↑(List.length x0) : Int))) with
  | true =>
    cases (decide ((↑(List.length x0) : Int) ≤ (↑(nat_lit 2147483648) : Int))) with
    | true =>
      cases (decide ((↑(List.length x1) : Int) ≤ (↑(List.length x1) : Int))) with
      | true =>
        cases (decide ((↑(List.length x1) : Int) ≤ (↑(nat_lit 2147483648) : Int))) with
        | true =>
          cases (ok (v52 (List.replicate (Int.toNat (↑(List.length x0) : Int)) (0 : Int)) (List.replicate (Int.toNat (↑(List.length x1) : Int)) (0 : Int)) x0 x1 x2)) with
          | true =>
            cases (isL (L27_32_0 FU x2 (↑(List.length (Prod.fst (val (v52 (List.replicate (Int.toNat (↑(List.length x0) : Int)) (0 : Int)) (List.replicate (Int.toNat (↑(List.length x1) : Int)) (0 : Int)) x0 x1 x2)))) : Int) (0 : Int) x0 x1 (Prod.snd (val (v52 (List.replicate (Int.toNat (↑(List.length x0) : Int)) (0 : Int)) (List.replicate (Int.toNat (↑(List.length x1) : Int)) (0 : Int)) x0 x1 x2))) false (Prod.fst (val (v52 (List.replicate (Int.toNat (↑(List.length x0) : Int)) (0 : Int)) (List.replicate (Int.toNat (↑(List.length x1) : Int)) (0 : Int)) x0 x1 x2))) x3)) with
            | true =>
              rfl
            | false =>
              cases (ok (getR (L27_32_0 FU x2 (↑(List.length (Prod.fst (val (v52 (List.replicate (Int.toNat (↑(List.length x0) : Int)) (0 : Int)) (List.replicate (Int.toNat (↑(List.length x1) : Int)) (0 : Int)) x0 x1 x2)))) : Int) (0 : Int) x0 x1 (Prod.snd (val (v52 (List.replicate (Int.toNat (↑(List.length x0) : Int)) (0 : Int)) (List.replicate (Int.toNat (↑(List.length x1) : Int)) (0 : Int)) x0 x1 x2))) false (Prod.fst (val (v52 (List.replicate (Int.toNat (↑(List.length x0) : Int)) (0 : Int)) (List.replicate (Int.toNat (↑(List.length x1) : Int)) (0 : Int)) x0 x1 x2))) x3))) with
              | true =>
                cases (isL (v52_1 x3 false (Prod.snd (val (v52 (List.replicate (Int.toNat (↑(List.length x0) : Int)) (0 : Int)) (List.replicate (Int.toNat (↑(List.length x1) : Int)) (0 : Int)) x0 x1 x2))) x0 x1 x2)) with
                | true =>
                  rfl
                | false =>
                  cases (ok (getR (v52_1 x3 false (Prod.snd (val (v52 (List.replicate (Int.toNat (↑(List.length x0) : Int)) (0 : Int)) (List.replicate (Int.toNat (↑(List.length x1) : Int)) (0 : Int)) x0 x1 x2))) x0 x1 x2))) with
                  | true =>
                    rfl
                  | false =>
                    rfl
              | false =>
                rfl
          | false =>
            rfl
        | false =>
          rfl
      | false =>
        rfl
    | false =>
      rfl
  | false =>
    rfl
noncomputable def sv27 : OrcS := fun al H => dC al fun y1 l2 => dA y1 fun y3 => dC y3 fun y4 l5 => dD 3 (.int .i64) y4 fun x0 => dC l5 fun y6 l7 => dD 26 (.list 22 (.list 3 (.int .i64))) y6 fun x1 => dE l7 <| dC l2 fun y8 l9 => dS y8 fun y10 => dD 22 (.list 3 (.int .i64)) y10 fun x2 => dC l9 fun y11 l12 => dS y11 fun y13 => dD 3 (.int .i64) y13 fun x3 => dE l12 <| dE H <|  some [(ok (v27 x0 x1 x2 x3), [.sc (.bool ((val (v27 x0 x1 x2 x3))))], [])]
theorem wv27 : NewOrc Try.prog dOk base o77 t77 (27, sv27) := by
  intro al H q hq0 rs H2 h2
  have hq : sv27 al H = some q := hq0
  clear hq0
  unfold sv27 at hq
  replace hq := dC_some hq; obtain ⟨y1, l2, rfl, hq⟩ := hq
  replace hq := dA_some hq; obtain ⟨y3, rfl, hq⟩ := hq
  replace hq := dC_some hq; obtain ⟨y4, l5, rfl, hq⟩ := hq
  replace hq := dD_some hq; obtain ⟨x0, rfl, hq⟩ := hq
  replace hq := dC_some hq; obtain ⟨y6, l7, rfl, hq⟩ := hq
  replace hq := dD_some hq; obtain ⟨x1, rfl, hq⟩ := hq
  replace hq := dE_some hq; obtain ⟨rfl, hq⟩ := hq
  replace hq := dC_some hq; obtain ⟨y8, l9, rfl, hq⟩ := hq
  replace hq := dS_some hq; obtain ⟨y10, rfl, hq⟩ := hq
  replace hq := dD_some hq; obtain ⟨x2, rfl, hq⟩ := hq
  replace hq := dC_some hq; obtain ⟨y11, l12, rfl, hq⟩ := hq
  replace hq := dS_some hq; obtain ⟨y13, rfl, hq⟩ := hq
  replace hq := dD_some hq; obtain ⟨x3, rfl, hq⟩ := hq
  replace hq := dE_some hq; obtain ⟨rfl, hq⟩ := hq
  replace hq := dE_some hq; obtain ⟨rfl, hq⟩ := hq
  cases hq
  obtain ⟨hc0, rfl, rfl⟩ := pickR_one h2
  exact ⟨41, (fn_eq (by kernel_rfl)).trans ((ev27 _ _ _ _).trans (bind_of (ok_val hc0)))⟩
noncomputable def o78 : OrcT := (27, sv27) :: o77
noncomputable def t78 : TellT := t77
noncomputable abbrev tn78 : FuncId → TAn := mkTn base o78 t78
theorem ok78 : TnOk Try.prog tn78 (mkA base) dOk := by
  have h0 : TnOk Try.prog (mkTn base o77 t77) (mkA base) dOk := ok77
  have h1 := tn_orc h0 h0 (p := (27, sv27)) wv27
  exact h1
noncomputable def L30_0_0 : Nat → (List Int) → Int → Int → (List Int) → (List (List (List Int))) → Option Int
  | 0, _, _, _, _, _ => none
  | n + 1, x0, x1, x2, x3, x4 => (cond (decide (x2 < (↑(List.length x0) : Int))) (cond (decide ((0 : Int) ≤ x2)) (cond (decide (x2 < (↑(List.length x3) : Int))) (L30_0_0 n (x0) (IntKind.wrap IntKind.i64 (x1 + IntKind.wrap IntKind.i64 (List.getD x0 (Int.toNat x2) (0 : Int) * List.getD x3 (Int.toNat x2) (0 : Int)))) (IntKind.wrap IntKind.i64 (x2 + (1 : Int))) (x3) (x4)) none) none) (some (x1)))
theorem qL30_0_0 : type_of% @L30_0_0.eq_2 := @L30_0_0.eq_2
noncomputable def xL30_0_0 (x0 : (List Int)) (x1 : Int) (x2 : Int) (x3 : (List Int)) (x4 : (List (List (List Int)))) : Int → Ex × CS := fun r => ((.exit 0), { sl := [(2, .l 2 0), (5, .v (.sc (.int .i64 (r))))], lo := [], h := [], n0 := 0, w := false })
theorem bL30_0_0 (k : Nat) (cN : CS → Option (Ex × CS)) (cX : Ex → CS → Option (Ex × CS)) (x0 : (List Int)) (x1 : Int) (x2 : Int) (x3 : (List Int)) (x4 : (List (List (List Int)))) : loopBody Try.prog (mkTn base o78 t78 30) (TM.evF Try.prog (mkTn base o78 t78) dOk (k + 40)) dOk (k + 40) (codeAt Try.prog (tn0 30) 30 0) 0 0 { sl := [(1, .v (.sc (.d 3 (.int .i64) (x0)))), (2, .l 2 0), (5, .v (.sc (.int .i64 (x1)))), (6, .v (.sc (.int .i64 (x2))))], lo := [(2, [.d 3 (.int .i64) (x3), .d 26 (.list 22 (.list 3 (.int .i64))) (x4)])], h := [], n0 := 0, w := false } cN cX = (cond (decide (x2 < (↑(List.length x0) : Int))) (cond (decide ((0 : Int) ≤ x2)) (cond (decide (x2 < (↑(List.length x0) : Int))) (cond (decide ((0 : Int) ≤ x2)) (cond (decide (x2 < (↑(List.length x3) : Int))) (cN { sl := [(1, .v (.sc (.d 3 (.int .i64) (x0)))), (2, .l 2 0), (5, .v (.sc (.int .i64 (IntKind.wrap IntKind.i64 (x1 + IntKind.wrap IntKind.i64 (List.getD x0 (Int.toNat x2) (0 : Int) * List.getD x3 (Int.toNat x2) (0 : Int))))))), (6, .v (.sc (.int .i64 (IntKind.wrap IntKind.i64 (x2 + (1 : Int))))))], lo := [(2, [.d 3 (.int .i64) (x3), .d 26 (.list 22 (.list 3 (.int .i64))) (x4)])], h := [], n0 := 0, w := false }) none) none) none) none) (cX (.exit 0) { sl := [(2, .l 2 0), (5, .v (.sc (.int .i64 (x1))))], lo := [], h := [], n0 := 0, w := false })) := by kernel_rfl
theorem lL30_0_0 (k m : Nat) : ∀ (n : Nat) (x0 : (List Int)) (x1 : Int) (x2 : Int) (x3 : (List Int)) (x4 : (List (List (List Int)))) (r : Int), L30_0_0 n x0 x1 x2 x3 x4 = some r → loopE Try.prog (mkTn base o78 t78 30) (TM.evF Try.prog (mkTn base o78 t78) dOk (k + 40)) dOk (k + 40) (codeAt Try.prog (tn0 30) 30 0) 0 0 (n + m) { sl := [(1, .v (.sc (.d 3 (.int .i64) (x0)))), (2, .l 2 0), (5, .v (.sc (.int .i64 (x1)))), (6, .v (.sc (.int .i64 (x2))))], lo := [(2, [.d 3 (.int .i64) (x3), .d 26 (.list 22 (.list 3 (.int .i64))) (x4)])], h := [], n0 := 0, w := false } = some (xL30_0_0 x0 x1 x2 x3 x4 r) := by
  intro n
  induction n with
  | zero => intro _ _ _ _ _ r h; cases h
  | succ n ih =>
    intro x0 x1 x2 x3 x4 r
    rw [show n + 1 + m = n + m + 1 by omega, loop_step, bL30_0_0, qL30_0_0]
    cases (decide (x2 < (↑(List.length x0) : Int))) with
    | true =>
      cases (decide ((0 : Int) ≤ x2)) with
      | true =>
        cases (decide (x2 < (↑(List.length x3) : Int))) with
        | true =>
          exact ih _ _ _ _ _ r
        | false =>
          intro h; cases h
      | false =>
        intro h; cases h
    | false =>
      intro h; cases h; rfl
noncomputable def sL30_0_0 : TellS := fun S => dCS 0 S fun y1 y2 y3 => dSs 1 y1 fun y5 l4 => dD 3 (.int .i64) y5 fun x0 => dSt 2 l4 fun y7 l6 => dL 2 0 y7 <| dSI 5 .i64 l6 fun x1 l8 => dSI 6 .i64 l8 fun x2 l9 => dE l9 <| dLo 2 y2 fun y10 l11 => dC y10 fun y12 l13 => dD 3 (.int .i64) y12 fun x3 => dC l13 fun y14 l15 => dD 26 (.list 22 (.list 3 (.int .i64))) y14 fun x4 => dE l15 <| dE l11 <| dE y3 <|  some [(ok (L30_0_0 FU x0 x1 x2 x3 x4), (.exit 0), { sl := [(2, .l 2 0), (5, .v (.sc (.int .i64 ((val (L30_0_0 FU x0 x1 x2 x3 x4))))))], lo := [], h := [], n0 := 0, w := false })]
theorem wL30_0_0 : NewTell Try.prog dOk base o78 t78 ((30, 0), sL30_0_0) := by
  refine ⟨.loop (codeAt Try.prog (tn0 30) 30 0), 0, by kernel_rfl, ?_⟩
  intro S alts e S' h10 h2
  have h1 : sL30_0_0 S = some alts := h10
  clear h10
  unfold sL30_0_0 at h1
  replace h1 := dCS_some h1; obtain ⟨y1, y2, y3, rfl, h1⟩ := h1
  replace h1 := dSs_some h1; obtain ⟨y5, l4, rfl, h1⟩ := h1
  replace h1 := dD_some h1; obtain ⟨x0, rfl, h1⟩ := h1
  replace h1 := dSt_some h1; obtain ⟨y7, l6, rfl, h1⟩ := h1
  replace h1 := dL_some h1; obtain ⟨rfl, h1⟩ := h1
  replace h1 := dSI_some h1; obtain ⟨x1, l8, rfl, h1⟩ := h1
  replace h1 := dSI_some h1; obtain ⟨x2, l9, rfl, h1⟩ := h1
  replace h1 := dE_some h1; obtain ⟨rfl, h1⟩ := h1
  replace h1 := dLo_some h1; obtain ⟨y10, l11, rfl, h1⟩ := h1
  replace h1 := dC_some h1; obtain ⟨y12, l13, rfl, h1⟩ := h1
  replace h1 := dD_some h1; obtain ⟨x3, rfl, h1⟩ := h1
  replace h1 := dC_some h1; obtain ⟨y14, l15, rfl, h1⟩ := h1
  replace h1 := dD_some h1; obtain ⟨x4, rfl, h1⟩ := h1
  replace h1 := dE_some h1; obtain ⟨rfl, h1⟩ := h1
  replace h1 := dE_some h1; obtain ⟨rfl, h1⟩ := h1
  replace h1 := dE_some h1; obtain ⟨rfl, h1⟩ := h1
  cases h1
  obtain ⟨hc0, rfl, rfl⟩ := pick_one h2
  exact ⟨FU + 40, (evPiece_loop rfl).trans (lL30_0_0 FU 40 FU _ _ _ _ _ _ (ok_val hc0))⟩
noncomputable def o79 : OrcT := o78
noncomputable def t79 : TellT := ((30, 0), sL30_0_0) :: t78
noncomputable abbrev tn79 : FuncId → TAn := mkTn base o79 t79
theorem ok79 : TnOk Try.prog tn79 (mkA base) dOk := by
  have h0 : TnOk Try.prog (mkTn base o78 t78) (mkA base) dOk := ok78
  have h1 := tn_tell h0 h0 (p := ((30, 0), sL30_0_0)) wL30_0_0
  exact h1
noncomputable def v30 (x0 : (List Int)) (x1 : (List (List (List Int)))) (x2 : (List Int)) : Option Int := (cond (ok (L30_0_0 FU x2 (0 : Int) (0 : Int) x0 x1)) (some (val (L30_0_0 FU x2 (0 : Int) (0 : Int) x0 x1))) none)
theorem ev30 (x0 : (List Int)) (x1 : (List (List (List Int)))) (x2 : (List Int)) : fnBody Try.prog (mkTn base o79 t79 30) (TM.evF Try.prog (mkTn base o79 t79) dOk 40) dOk 40 30 [.agg [.d 3 (.int .i64) (x0), .d 26 (.list 22 (.list 3 (.int .i64))) (x1)], .sc (.d 3 (.int .i64) (x2))] [] = (v30 x0 x1 x2).bind fun r => some ([.sc (.int .i64 (r))], []) := by
  refine Eq.trans (b := (cond (ok (L30_0_0 FU x2 (0 : Int) (0 : Int) x0 x1)) (some ([.sc (.int .i64 (val (L30_0_0 FU x2 (0 : Int) (0 : Int) x0 x1)))], [])) none)) (by kernel_rfl) ?_
  unfold v30
  cases (ok (L30_0_0 FU x2 (0 : Int) (0 : Int) x0 x1)) with
  | true =>
    rfl
  | false =>
    rfl
noncomputable def sv30 : OrcS := fun al H => dC al fun y1 l2 => dA y1 fun y3 => dC y3 fun y4 l5 => dD 3 (.int .i64) y4 fun x0 => dC l5 fun y6 l7 => dD 26 (.list 22 (.list 3 (.int .i64))) y6 fun x1 => dE l7 <| dC l2 fun y8 l9 => dS y8 fun y10 => dD 3 (.int .i64) y10 fun x2 => dE l9 <| dE H <|  some [(ok (v30 x0 x1 x2), [.sc (.int .i64 ((val (v30 x0 x1 x2))))], [])]
theorem wv30 : NewOrc Try.prog dOk base o79 t79 (30, sv30) := by
  intro al H q hq0 rs H2 h2
  have hq : sv30 al H = some q := hq0
  clear hq0
  unfold sv30 at hq
  replace hq := dC_some hq; obtain ⟨y1, l2, rfl, hq⟩ := hq
  replace hq := dA_some hq; obtain ⟨y3, rfl, hq⟩ := hq
  replace hq := dC_some hq; obtain ⟨y4, l5, rfl, hq⟩ := hq
  replace hq := dD_some hq; obtain ⟨x0, rfl, hq⟩ := hq
  replace hq := dC_some hq; obtain ⟨y6, l7, rfl, hq⟩ := hq
  replace hq := dD_some hq; obtain ⟨x1, rfl, hq⟩ := hq
  replace hq := dE_some hq; obtain ⟨rfl, hq⟩ := hq
  replace hq := dC_some hq; obtain ⟨y8, l9, rfl, hq⟩ := hq
  replace hq := dS_some hq; obtain ⟨y10, rfl, hq⟩ := hq
  replace hq := dD_some hq; obtain ⟨x2, rfl, hq⟩ := hq
  replace hq := dE_some hq; obtain ⟨rfl, hq⟩ := hq
  replace hq := dE_some hq; obtain ⟨rfl, hq⟩ := hq
  cases hq
  obtain ⟨hc0, rfl, rfl⟩ := pickR_one h2
  exact ⟨41, (fn_eq (by kernel_rfl)).trans ((ev30 _ _ _).trans (bind_of (ok_val hc0)))⟩
noncomputable def o80 : OrcT := (30, sv30) :: o79
noncomputable def t80 : TellT := t79
noncomputable abbrev tn80 : FuncId → TAn := mkTn base o80 t80
theorem ok80 : TnOk Try.prog tn80 (mkA base) dOk := by
  have h0 : TnOk Try.prog (mkTn base o79 t79) (mkA base) dOk := ok79
  have h1 := tn_orc h0 h0 (p := (30, sv30)) wv30
  exact h1
noncomputable def v12 (x0 : (List Int)) (x1 : (List (List (List Int)))) (x2 : (List (List Int))) (x3 : (List Int)) : Option (Int × Int) := (cond (ok (v14 x0 x1)) (cond (!val (v14 x0 x1)) (some ((0 : Int), (1 : Int))) (cond (ok (v17 x0 x1 x2)) (cond (!val (v17 x0 x1 x2)) (some ((0 : Int), (1 : Int))) (cond (ok (v23 x0 x1 x3)) (cond (!val (v23 x0 x1 x3)) (some ((0 : Int), (1 : Int))) (cond (ok (v29 x0 x1 x2 x3)) (cond (!val (v29 x0 x1 x2 x3)) (some ((0 : Int), (17 : Int))) (cond (ok (v30 x0 x1 x3)) (cond (decide (max (0 : Int) (IntKind.wrap IntKind.i64 (val (v30 x0 x1 x3) - IntKind.wrap IntKind.i64 ((1000000 : Int) * (↑(List.length x1) : Int)))) > (1000000000000 : Int))) (some ((0 : Int), (3 : Int))) (some (max (0 : Int) (IntKind.wrap IntKind.i64 (val (v30 x0 x1 x3) - IntKind.wrap IntKind.i64 ((1000000 : Int) * (↑(List.length x1) : Int)))), (0 : Int)))) none)) none)) none)) none)) none)
theorem ev12 (x0 : (List Int)) (x1 : (List (List (List Int)))) (x2 : (List (List Int))) (x3 : (List Int)) : fnBody Try.prog (mkTn base o80 t80 12) (TM.evF Try.prog (mkTn base o80 t80) dOk 40) dOk 40 12 [.agg [.d 3 (.int .i64) (x0), .d 26 (.list 22 (.list 3 (.int .i64))) (x1)], .sc (.d 22 (.list 3 (.int .i64)) (x2)), .sc (.d 3 (.int .i64) (x3))] [] = (v12 x0 x1 x2 x3).bind fun r => some ([.sc (.int .i64 (r.1)), .sc (.int .i64 (r.2))], []) := by
  refine Eq.trans (b := (cond (ok (v14 x0 x1)) (cond (!val (v14 x0 x1)) (some ([.sc (.int .i64 ((0 : Int))), .sc (.int .i64 ((1 : Int)))], [])) (cond (ok (v17 x0 x1 x2)) (cond (!val (v17 x0 x1 x2)) (some ([.sc (.int .i64 ((0 : Int))), .sc (.int .i64 ((1 : Int)))], [])) (cond (ok (v23 x0 x1 x3)) (cond (!val (v23 x0 x1 x3)) (some ([.sc (.int .i64 ((0 : Int))), .sc (.int .i64 ((1 : Int)))], [])) (cond (ok (v29 x0 x1 x2 x3)) (cond (!val (v29 x0 x1 x2 x3)) (some ([.sc (.int .i64 ((0 : Int))), .sc (.int .i64 ((17 : Int)))], [])) (cond (ok (v30 x0 x1 x3)) (cond (decide (max (0 : Int) (IntKind.wrap IntKind.i64 (val (v30 x0 x1 x3) - IntKind.wrap IntKind.i64 ((1000000 : Int) * (↑(List.length x1) : Int)))) > (1000000000000 : Int))) (some ([.sc (.int .i64 ((0 : Int))), .sc (.int .i64 ((3 : Int)))], [])) (some ([.sc (.int .i64 (max (0 : Int) (IntKind.wrap IntKind.i64 (val (v30 x0 x1 x3) - IntKind.wrap IntKind.i64 ((1000000 : Int) * (↑(List.length x1) : Int)))))), .sc (.int .i64 ((0 : Int)))], []))) none)) none)) none)) none)) none)) (by kernel_rfl) ?_
  unfold v12
  cases (ok (v14 x0 x1)) with
  | true =>
    cases (!val (v14 x0 x1)) with
    | true =>
      rfl
    | false =>
      cases (ok (v17 x0 x1 x2)) with
      | true =>
        cases (!val (v17 x0 x1 x2)) with
        | true =>
          rfl
        | false =>
          cases (ok (v23 x0 x1 x3)) with
          | true =>
            cases (!val (v23 x0 x1 x3)) with
            | true =>
              rfl
            | false =>
              cases (ok (v29 x0 x1 x2 x3)) with
              | true =>
                cases (!val (v29 x0 x1 x2 x3)) with
                | true =>
                  rfl
                | false =>
                  cases (ok (v30 x0 x1 x3)) with
                  | true =>
                    cases (decide (max (0 : Int) (IntKind.wrap IntKind.i64 (val (v30 x0 x1 x3) - IntKind.wrap IntKind.i64 ((1000000 : Int) * (↑(List.length x1) : Int)))) > (1000000000000 : Int))) with
                    | true =>
                      rfl
                    | false =>
                      rfl
                  | false =>
                    rfl
              | false =>
                rfl
          | false =>
            rfl
      | false =>
        rfl
  | false =>
    rfl
noncomputable def sv12 : OrcS := fun al H => dC al fun y1 l2 => dA y1 fun y3 => dC y3 fun y4 l5 => dD 3 (.int .i64) y4 fun x0 => dC l5 fun y6 l7 => dD 26 (.list 22 (.list 3 (.int .i64))) y6 fun x1 => dE l7 <| dC l2 fun y8 l9 => dS y8 fun y10 => dD 22 (.list 3 (.int .i64)) y10 fun x2 => dC l9 fun y11 l12 => dS y11 fun y13 => dD 3 (.int .i64) y13 fun x3 => dE l12 <| dE H <|  some [(ok (v12 x0 x1 x2 x3), [.sc (.int .i64 ((val (v12 x0 x1 x2 x3)).1)), .sc (.int .i64 ((val (v12 x0 x1 x2 x3)).2))], [])]
theorem wv12 : NewOrc Try.prog dOk base o80 t80 (12, sv12) := by
  intro al H q hq0 rs H2 h2
  have hq : sv12 al H = some q := hq0
  clear hq0
  unfold sv12 at hq
  replace hq := dC_some hq; obtain ⟨y1, l2, rfl, hq⟩ := hq
  replace hq := dA_some hq; obtain ⟨y3, rfl, hq⟩ := hq
  replace hq := dC_some hq; obtain ⟨y4, l5, rfl, hq⟩ := hq
  replace hq := dD_some hq; obtain ⟨x0, rfl, hq⟩ := hq
  replace hq := dC_some hq; obtain ⟨y6, l7, rfl, hq⟩ := hq
  replace hq := dD_some hq; obtain ⟨x1, rfl, hq⟩ := hq
  replace hq := dE_some hq; obtain ⟨rfl, hq⟩ := hq
  replace hq := dC_some hq; obtain ⟨y8, l9, rfl, hq⟩ := hq
  replace hq := dS_some hq; obtain ⟨y10, rfl, hq⟩ := hq
  replace hq := dD_some hq; obtain ⟨x2, rfl, hq⟩ := hq
  replace hq := dC_some hq; obtain ⟨y11, l12, rfl, hq⟩ := hq
  replace hq := dS_some hq; obtain ⟨y13, rfl, hq⟩ := hq
  replace hq := dD_some hq; obtain ⟨x3, rfl, hq⟩ := hq
  replace hq := dE_some hq; obtain ⟨rfl, hq⟩ := hq
  replace hq := dE_some hq; obtain ⟨rfl, hq⟩ := hq
  cases hq
  obtain ⟨hc0, rfl, rfl⟩ := pickR_one h2
  exact ⟨41, (fn_eq (by kernel_rfl)).trans ((ev12 _ _ _ _).trans (bind_of (ok_val hc0)))⟩
noncomputable def o81 : OrcT := (12, sv12) :: o80
noncomputable def t81 : TellT := t80
noncomputable abbrev tn81 : FuncId → TAn := mkTn base o81 t81
theorem ok81 : TnOk Try.prog tn81 (mkA base) dOk := by
  have h0 : TnOk Try.prog (mkTn base o80 t80) (mkA base) dOk := ok80
  have h1 := tn_orc h0 h0 (p := (12, sv12)) wv12
  exact h1
noncomputable def L28_0_0 : Nat → Int → (List Int) → Int → Int → (List Int) → (List (List (List Int))) → Option Int
  | 0, _, _, _, _, _, _ => none
  | n + 1, x0, x1, x2, x3, x4, x5 => (cond (decide (x3 < x2)) (cond (decide ((0 : Int) ≤ x3)) (cond (decide (x3 < (↑(List.length x1) : Int))) (cond (decide (x3 < (↑(List.length x4) : Int))) (L28_0_0 n (IntKind.wrap IntKind.i64 (x0 + IntKind.wrap IntKind.i64 (List.getD x1 (Int.toNat x3) (0 : Int) * List.getD x4 (Int.toNat x3) (0 : Int)))) (x1) (x2) (IntKind.wrap IntKind.i64 (x3 + (1 : Int))) (x4) (x5)) none) none) none) (some (x0)))
theorem qL28_0_0 : type_of% @L28_0_0.eq_2 := @L28_0_0.eq_2
noncomputable def xL28_0_0 (x0 : Int) (x1 : (List Int)) (x2 : Int) (x3 : Int) (x4 : (List Int)) (x5 : (List (List (List Int)))) : Int → Ex × CS := fun r => ((.exit 0), { sl := [(2, .l 2 0), (5, .v (.sc (.int .i64 (r))))], lo := [], h := [], n0 := 0, w := false })
theorem bL28_0_0 (k : Nat) (cN : CS → Option (Ex × CS)) (cX : Ex → CS → Option (Ex × CS)) (x0 : Int) (x1 : (List Int)) (x2 : Int) (x3 : Int) (x4 : (List Int)) (x5 : (List (List (List Int)))) : loopBody Try.prog (mkTn base o81 t81 28) (TM.evF Try.prog (mkTn base o81 t81) dOk (k + 40)) dOk (k + 40) (codeAt Try.prog (tn0 28) 28 0) 0 0 { sl := [(2, .l 2 0), (5, .v (.sc (.int .i64 (x0)))), (8, .v (.sc (.d 3 (.int .i64) (x1)))), (9, .v (.sc (.int .i64 (x2)))), (10, .v (.sc (.int .i64 (x3))))], lo := [(2, [.d 3 (.int .i64) (x4), .d 26 (.list 22 (.list 3 (.int .i64))) (x5)])], h := [], n0 := 0, w := false } cN cX = (cond (decide (x3 < x2)) (cond (decide ((0 : Int) ≤ x3)) (cond (decide (x3 < (↑(List.length x1) : Int))) (cond (decide ((0 : Int) ≤ x3)) (cond (decide (x3 < (↑(List.length x4) : Int))) (cN { sl := [(2, .l 2 0), (5, .v (.sc (.int .i64 (IntKind.wrap IntKind.i64 (x0 + IntKind.wrap IntKind.i64 (List.getD x1 (Int.toNat x3) (0 : Int) * List.getD x4 (Int.toNat x3) (0 : Int))))))), (8, .v (.sc (.d 3 (.int .i64) (x1)))), (9, .v (.sc (.int .i64 (x2)))), (10, .v (.sc (.int .i64 (IntKind.wrap IntKind.i64 (x3 + (1 : Int))))))], lo := [(2, [.d 3 (.int .i64) (x4), .d 26 (.list 22 (.list 3 (.int .i64))) (x5)])], h := [], n0 := 0, w := false }) none) none) none) none) (cX (.exit 0) { sl := [(2, .l 2 0), (5, .v (.sc (.int .i64 (x0))))], lo := [], h := [], n0 := 0, w := false })) := by kernel_rfl
theorem lL28_0_0 (k m : Nat) : ∀ (n : Nat) (x0 : Int) (x1 : (List Int)) (x2 : Int) (x3 : Int) (x4 : (List Int)) (x5 : (List (List (List Int)))) (r : Int), L28_0_0 n x0 x1 x2 x3 x4 x5 = some r → loopE Try.prog (mkTn base o81 t81 28) (TM.evF Try.prog (mkTn base o81 t81) dOk (k + 40)) dOk (k + 40) (codeAt Try.prog (tn0 28) 28 0) 0 0 (n + m) { sl := [(2, .l 2 0), (5, .v (.sc (.int .i64 (x0)))), (8, .v (.sc (.d 3 (.int .i64) (x1)))), (9, .v (.sc (.int .i64 (x2)))), (10, .v (.sc (.int .i64 (x3))))], lo := [(2, [.d 3 (.int .i64) (x4), .d 26 (.list 22 (.list 3 (.int .i64))) (x5)])], h := [], n0 := 0, w := false } = some (xL28_0_0 x0 x1 x2 x3 x4 x5 r) := by
  intro n
  induction n with
  | zero => intro _ _ _ _ _ _ r h; cases h
  | succ n ih =>
    intro x0 x1 x2 x3 x4 x5 r
    rw [show n + 1 + m = n + m + 1 by omega, loop_step, bL28_0_0, qL28_0_0]
    cases (decide (x3 < x2)) with
    | true =>
      cases (decide ((0 : Int) ≤ x3)) with
      | true =>
        cases (decide (x3 < (↑(List.length x1) : Int))) with
        | true =>
          cases (decide (x3 < (↑(List.length x4) : Int))) with
          | true =>
            exact ih _ _ _ _ _ _ r
          | false =>
            intro h; cases h
        | false =>
          intro h; cases h
      | false =>
        intro h; cases h
    | false =>
      intro h; cases h; rfl
noncomputable def sL28_0_0 : TellS := fun S => dCS 0 S fun y1 y2 y3 => dSt 2 y1 fun y5 l4 => dL 2 0 y5 <| dSI 5 .i64 l4 fun x0 l6 => dSs 8 l6 fun y8 l7 => dD 3 (.int .i64) y8 fun x1 => dSI 9 .i64 l7 fun x2 l9 => dSI 10 .i64 l9 fun x3 l10 => dE l10 <| dLo 2 y2 fun y11 l12 => dC y11 fun y13 l14 => dD 3 (.int .i64) y13 fun x4 => dC l14 fun y15 l16 => dD 26 (.list 22 (.list 3 (.int .i64))) y15 fun x5 => dE l16 <| dE l12 <| dE y3 <|  some [(ok (L28_0_0 FU x0 x1 x2 x3 x4 x5), (.exit 0), { sl := [(2, .l 2 0), (5, .v (.sc (.int .i64 ((val (L28_0_0 FU x0 x1 x2 x3 x4 x5))))))], lo := [], h := [], n0 := 0, w := false })]
theorem wL28_0_0 : NewTell Try.prog dOk base o81 t81 ((28, 0), sL28_0_0) := by
  refine ⟨.loop (codeAt Try.prog (tn0 28) 28 0), 0, by kernel_rfl, ?_⟩
  intro S alts e S' h10 h2
  have h1 : sL28_0_0 S = some alts := h10
  clear h10
  unfold sL28_0_0 at h1
  replace h1 := dCS_some h1; obtain ⟨y1, y2, y3, rfl, h1⟩ := h1
  replace h1 := dSt_some h1; obtain ⟨y5, l4, rfl, h1⟩ := h1
  replace h1 := dL_some h1; obtain ⟨rfl, h1⟩ := h1
  replace h1 := dSI_some h1; obtain ⟨x0, l6, rfl, h1⟩ := h1
  replace h1 := dSs_some h1; obtain ⟨y8, l7, rfl, h1⟩ := h1
  replace h1 := dD_some h1; obtain ⟨x1, rfl, h1⟩ := h1
  replace h1 := dSI_some h1; obtain ⟨x2, l9, rfl, h1⟩ := h1
  replace h1 := dSI_some h1; obtain ⟨x3, l10, rfl, h1⟩ := h1
  replace h1 := dE_some h1; obtain ⟨rfl, h1⟩ := h1
  replace h1 := dLo_some h1; obtain ⟨y11, l12, rfl, h1⟩ := h1
  replace h1 := dC_some h1; obtain ⟨y13, l14, rfl, h1⟩ := h1
  replace h1 := dD_some h1; obtain ⟨x4, rfl, h1⟩ := h1
  replace h1 := dC_some h1; obtain ⟨y15, l16, rfl, h1⟩ := h1
  replace h1 := dD_some h1; obtain ⟨x5, rfl, h1⟩ := h1
  replace h1 := dE_some h1; obtain ⟨rfl, h1⟩ := h1
  replace h1 := dE_some h1; obtain ⟨rfl, h1⟩ := h1
  replace h1 := dE_some h1; obtain ⟨rfl, h1⟩ := h1
  cases h1
  obtain ⟨hc0, rfl, rfl⟩ := pick_one h2
  exact ⟨FU + 40, (evPiece_loop rfl).trans (lL28_0_0 FU 40 FU _ _ _ _ _ _ _ (ok_val hc0))⟩
noncomputable def o82 : OrcT := o81
noncomputable def t82 : TellT := ((28, 0), sL28_0_0) :: t81
noncomputable abbrev tn82 : FuncId → TAn := mkTn base o82 t82
theorem ok82 : TnOk Try.prog tn82 (mkA base) dOk := by
  have h0 : TnOk Try.prog (mkTn base o81 t81) (mkA base) dOk := ok81
  have h1 := tn_tell h0 h0 (p := ((28, 0), sL28_0_0)) wL28_0_0
  exact h1
noncomputable def v28 (x0 : (List Int)) (x1 : (List (List (List Int)))) (x2 : (List Int)) : Option Int := (cond (ok (L28_0_0 FU (0 : Int) x2 (↑(List.length x2) : Int) (0 : Int) x0 x1)) (some (val (L28_0_0 FU (0 : Int) x2 (↑(List.length x2) : Int) (0 : Int) x0 x1))) none)
theorem ev28 (x0 : (List Int)) (x1 : (List (List (List Int)))) (x2 : (List Int)) : fnBody Try.prog (mkTn base o82 t82 28) (TM.evF Try.prog (mkTn base o82 t82) dOk 40) dOk 40 28 [.agg [.d 3 (.int .i64) (x0), .d 26 (.list 22 (.list 3 (.int .i64))) (x1)], .sc (.d 3 (.int .i64) (x2))] [] = (v28 x0 x1 x2).bind fun r => some ([.sc (.int .i64 (r))], []) := by
  refine Eq.trans (b := (cond (ok (L28_0_0 FU (0 : Int) x2 (↑(List.length x2) : Int) (0 : Int) x0 x1)) (some ([.sc (.int .i64 (val (L28_0_0 FU (0 : Int) x2 (↑(List.length x2) : Int) (0 : Int) x0 x1)))], [])) none)) (by kernel_rfl) ?_
  unfold v28
  cases (ok (L28_0_0 FU (0 : Int) x2 (↑(List.length x2) : Int) (0 : Int) x0 x1)) with
  | true =>
    rfl
  | false =>
    rfl
noncomputable def sv28 : OrcS := fun al H => dC al fun y1 l2 => dA y1 fun y3 => dC y3 fun y4 l5 => dD 3 (.int .i64) y4 fun x0 => dC l5 fun y6 l7 => dD 26 (.list 22 (.list 3 (.int .i64))) y6 fun x1 => dE l7 <| dC l2 fun y8 l9 => dS y8 fun y10 => dD 3 (.int .i64) y10 fun x2 => dE l9 <| dE H <|  some [(ok (v28 x0 x1 x2), [.sc (.int .i64 ((val (v28 x0 x1 x2))))], [])]
theorem wv28 : NewOrc Try.prog dOk base o82 t82 (28, sv28) := by
  intro al H q hq0 rs H2 h2
  have hq : sv28 al H = some q := hq0
  clear hq0
  unfold sv28 at hq
  replace hq := dC_some hq; obtain ⟨y1, l2, rfl, hq⟩ := hq
  replace hq := dA_some hq; obtain ⟨y3, rfl, hq⟩ := hq
  replace hq := dC_some hq; obtain ⟨y4, l5, rfl, hq⟩ := hq
  replace hq := dD_some hq; obtain ⟨x0, rfl, hq⟩ := hq
  replace hq := dC_some hq; obtain ⟨y6, l7, rfl, hq⟩ := hq
  replace hq := dD_some hq; obtain ⟨x1, rfl, hq⟩ := hq
  replace hq := dE_some hq; obtain ⟨rfl, hq⟩ := hq
  replace hq := dC_some hq; obtain ⟨y8, l9, rfl, hq⟩ := hq
  replace hq := dS_some hq; obtain ⟨y10, rfl, hq⟩ := hq
  replace hq := dD_some hq; obtain ⟨x2, rfl, hq⟩ := hq
  replace hq := dE_some hq; obtain ⟨rfl, hq⟩ := hq
  replace hq := dE_some hq; obtain ⟨rfl, hq⟩ := hq
  cases hq
  obtain ⟨hc0, rfl, rfl⟩ := pickR_one h2
  exact ⟨41, (fn_eq (by kernel_rfl)).trans ((ev28 _ _ _).trans (bind_of (ok_val hc0)))⟩
noncomputable def o83 : OrcT := (28, sv28) :: o82
noncomputable def t83 : TellT := t82
noncomputable abbrev tn83 : FuncId → TAn := mkTn base o83 t83
theorem ok83 : TnOk Try.prog tn83 (mkA base) dOk := by
  have h0 : TnOk Try.prog (mkTn base o82 t82) (mkA base) dOk := ok82
  have h1 := tn_orc h0 h0 (p := (28, sv28)) wv28
  exact h1
noncomputable def v11 (x0 : (List Int)) (x1 : (List (List (List Int)))) (x2 : (List (List Int))) (x3 : (List Int)) : Option (Int × Int) := (cond (ok (v13 x0 x1)) (cond (!val (v13 x0 x1)) (some ((0 : Int), (1 : Int))) (cond (ok (v26 x0 x1 x2 x3)) (cond (!val (v26 x0 x1 x2 x3)) (some ((0 : Int), (1 : Int))) (cond (ok (v27 x0 x1 x2 x3)) (cond (!val (v27 x0 x1 x2 x3)) (some ((0 : Int), (17 : Int))) (cond (ok (v28 x0 x1 x3)) (cond (decide (max (0 : Int) (IntKind.wrap IntKind.i64 (val (v28 x0 x1 x3) - IntKind.wrap IntKind.i64 ((1000000 : Int) * (↑(List.length x1) : Int)))) > (1000000000000 : Int))) (some ((0 : Int), (3 : Int))) (some (max (0 : Int) (IntKind.wrap IntKind.i64 (val (v28 x0 x1 x3) - IntKind.wrap IntKind.i64 ((1000000 : Int) * (↑(List.length x1) : Int)))), (0 : Int)))) none)) none)) none)) none)
theorem ev11 (x0 : (List Int)) (x1 : (List (List (List Int)))) (x2 : (List (List Int))) (x3 : (List Int)) : fnBody Try.prog (mkTn base o83 t83 11) (TM.evF Try.prog (mkTn base o83 t83) dOk 40) dOk 40 11 [.agg [.d 3 (.int .i64) (x0), .d 26 (.list 22 (.list 3 (.int .i64))) (x1)], .sc (.d 22 (.list 3 (.int .i64)) (x2)), .sc (.d 3 (.int .i64) (x3))] [] = (v11 x0 x1 x2 x3).bind fun r => some ([.sc (.int .i64 (r.1)), .sc (.int .i64 (r.2))], []) := by
  refine Eq.trans (b := (cond (ok (v13 x0 x1)) (cond (!val (v13 x0 x1)) (some ([.sc (.int .i64 ((0 : Int))), .sc (.int .i64 ((1 : Int)))], [])) (cond (ok (v26 x0 x1 x2 x3)) (cond (!val (v26 x0 x1 x2 x3)) (some ([.sc (.int .i64 ((0 : Int))), .sc (.int .i64 ((1 : Int)))], [])) (cond (ok (v27 x0 x1 x2 x3)) (cond (!val (v27 x0 x1 x2 x3)) (some ([.sc (.int .i64 ((0 : Int))), .sc (.int .i64 ((17 : Int)))], [])) (cond (ok (v28 x0 x1 x3)) (cond (decide (max (0 : Int) (IntKind.wrap IntKind.i64 (val (v28 x0 x1 x3) - IntKind.wrap IntKind.i64 ((1000000 : Int) * (↑(List.length x1) : Int)))) > (1000000000000 : Int))) (some ([.sc (.int .i64 ((0 : Int))), .sc (.int .i64 ((3 : Int)))], [])) (some ([.sc (.int .i64 (max (0 : Int) (IntKind.wrap IntKind.i64 (val (v28 x0 x1 x3) - IntKind.wrap IntKind.i64 ((1000000 : Int) * (↑(List.length x1) : Int)))))), .sc (.int .i64 ((0 : Int)))], []))) none)) none)) none)) none)) (by kernel_rfl) ?_
  unfold v11
  cases (ok (v13 x0 x1)) with
  | true =>
    cases (!val (v13 x0 x1)) with
    | true =>
      rfl
    | false =>
      cases (ok (v26 x0 x1 x2 x3)) with
      | true =>
        cases (!val (v26 x0 x1 x2 x3)) with
        | true =>
          rfl
        | false =>
          cases (ok (v27 x0 x1 x2 x3)) with
          | true =>
            cases (!val (v27 x0 x1 x2 x3)) with
            | true =>
              rfl
            | false =>
              cases (ok (v28 x0 x1 x3)) with
              | true =>
                cases (decide (max (0 : Int) (IntKind.wrap IntKind.i64 (val (v28 x0 x1 x3) - IntKind.wrap IntKind.i64 ((1000000 : Int) * (↑(List.length x1) : Int)))) > (1000000000000 : Int))) with
                | true =>
                  rfl
                | false =>
                  rfl
              | false =>
                rfl
          | false =>
            rfl
      | false =>
        rfl
  | false =>
    rfl
noncomputable def sv11 : OrcS := fun al H => dC al fun y1 l2 => dA y1 fun y3 => dC y3 fun y4 l5 => dD 3 (.int .i64) y4 fun x0 => dC l5 fun y6 l7 => dD 26 (.list 22 (.list 3 (.int .i64))) y6 fun x1 => dE l7 <| dC l2 fun y8 l9 => dS y8 fun y10 => dD 22 (.list 3 (.int .i64)) y10 fun x2 => dC l9 fun y11 l12 => dS y11 fun y13 => dD 3 (.int .i64) y13 fun x3 => dE l12 <| dE H <|  some [(ok (v11 x0 x1 x2 x3), [.sc (.int .i64 ((val (v11 x0 x1 x2 x3)).1)), .sc (.int .i64 ((val (v11 x0 x1 x2 x3)).2))], [])]
theorem wv11 : NewOrc Try.prog dOk base o83 t83 (11, sv11) := by
  intro al H q hq0 rs H2 h2
  have hq : sv11 al H = some q := hq0
  clear hq0
  unfold sv11 at hq
  replace hq := dC_some hq; obtain ⟨y1, l2, rfl, hq⟩ := hq
  replace hq := dA_some hq; obtain ⟨y3, rfl, hq⟩ := hq
  replace hq := dC_some hq; obtain ⟨y4, l5, rfl, hq⟩ := hq
  replace hq := dD_some hq; obtain ⟨x0, rfl, hq⟩ := hq
  replace hq := dC_some hq; obtain ⟨y6, l7, rfl, hq⟩ := hq
  replace hq := dD_some hq; obtain ⟨x1, rfl, hq⟩ := hq
  replace hq := dE_some hq; obtain ⟨rfl, hq⟩ := hq
  replace hq := dC_some hq; obtain ⟨y8, l9, rfl, hq⟩ := hq
  replace hq := dS_some hq; obtain ⟨y10, rfl, hq⟩ := hq
  replace hq := dD_some hq; obtain ⟨x2, rfl, hq⟩ := hq
  replace hq := dC_some hq; obtain ⟨y11, l12, rfl, hq⟩ := hq
  replace hq := dS_some hq; obtain ⟨y13, rfl, hq⟩ := hq
  replace hq := dD_some hq; obtain ⟨x3, rfl, hq⟩ := hq
  replace hq := dE_some hq; obtain ⟨rfl, hq⟩ := hq
  replace hq := dE_some hq; obtain ⟨rfl, hq⟩ := hq
  cases hq
  obtain ⟨hc0, rfl, rfl⟩ := pickR_one h2
  exact ⟨41, (fn_eq (by kernel_rfl)).trans ((ev11 _ _ _ _).trans (bind_of (ok_val hc0)))⟩
noncomputable def o84 : OrcT := (11, sv11) :: o83
noncomputable def t84 : TellT := t83
noncomputable abbrev tn84 : FuncId → TAn := mkTn base o84 t84
theorem ok84 : TnOk Try.prog tn84 (mkA base) dOk := by
  have h0 : TnOk Try.prog (mkTn base o83 t83) (mkA base) dOk := ok83
  have h1 := tn_orc h0 h0 (p := (11, sv11)) wv11
  exact h1
noncomputable def v15 (x0 : (List Int)) (x1 : (List (List (List Int)))) (x2 : (List (List Int))) (x3 : (List Int)) (x4 : Int) : Option Bool := (cond (ok (v11 x0 x1 x2 x3)) (cond (Prod.snd (val (v11 x0 x1 x2 x3)) == (0 : Int)) (cond (ok (v31 x4 (Prod.fst (val (v11 x0 x1 x2 x3))) (1000000000000 : Int))) (some (val (v31 x4 (Prod.fst (val (v11 x0 x1 x2 x3))) (1000000000000 : Int)))) none) (some (false))) none)
theorem ev15 (x0 : (List Int)) (x1 : (List (List (List Int)))) (x2 : (List (List Int))) (x3 : (List Int)) (x4 : Int) : fnBody Try.prog (mkTn base o84 t84 15) (TM.evF Try.prog (mkTn base o84 t84) dOk 40) dOk 40 15 [.agg [.d 3 (.int .i64) (x0), .d 26 (.list 22 (.list 3 (.int .i64))) (x1)], .agg [.d 22 (.list 3 (.int .i64)) (x2), .d 3 (.int .i64) (x3), .int .i64 (x4)]] [] = (v15 x0 x1 x2 x3 x4).bind fun r => some ([.sc (.bool (r))], []) := by
  refine Eq.trans (b := (cond (ok (v11 x0 x1 x2 x3)) (cond (Prod.snd (val (v11 x0 x1 x2 x3)) == (0 : Int)) (cond (ok (v31 x4 (Prod.fst (val (v11 x0 x1 x2 x3))) (1000000000000 : Int))) (some ([.sc (.bool (val (v31 x4 (Prod.fst (val (v11 x0 x1 x2 x3))) (1000000000000 : Int))))], [])) none) (some ([.sc (.bool (false))], []))) none)) (by kernel_rfl) ?_
  unfold v15
  cases (ok (v11 x0 x1 x2 x3)) with
  | true =>
    cases (Prod.snd (val (v11 x0 x1 x2 x3)) == (0 : Int)) with
    | true =>
      cases (ok (v31 x4 (Prod.fst (val (v11 x0 x1 x2 x3))) (1000000000000 : Int))) with
      | true =>
        rfl
      | false =>
        rfl
    | false =>
      rfl
  | false =>
    rfl
noncomputable def sv15 : OrcS := fun al H => dC al fun y1 l2 => dA y1 fun y3 => dC y3 fun y4 l5 => dD 3 (.int .i64) y4 fun x0 => dC l5 fun y6 l7 => dD 26 (.list 22 (.list 3 (.int .i64))) y6 fun x1 => dE l7 <| dC l2 fun y8 l9 => dA y8 fun y10 => dC y10 fun y11 l12 => dD 22 (.list 3 (.int .i64)) y11 fun x2 => dC l12 fun y13 l14 => dD 3 (.int .i64) y13 fun x3 => dCI .i64 l14 fun x4 l15 => dE l15 <| dE l9 <| dE H <|  some [(ok (v15 x0 x1 x2 x3 x4), [.sc (.bool ((val (v15 x0 x1 x2 x3 x4))))], [])]
theorem wv15 : NewOrc Try.prog dOk base o84 t84 (15, sv15) := by
  intro al H q hq0 rs H2 h2
  have hq : sv15 al H = some q := hq0
  clear hq0
  unfold sv15 at hq
  replace hq := dC_some hq; obtain ⟨y1, l2, rfl, hq⟩ := hq
  replace hq := dA_some hq; obtain ⟨y3, rfl, hq⟩ := hq
  replace hq := dC_some hq; obtain ⟨y4, l5, rfl, hq⟩ := hq
  replace hq := dD_some hq; obtain ⟨x0, rfl, hq⟩ := hq
  replace hq := dC_some hq; obtain ⟨y6, l7, rfl, hq⟩ := hq
  replace hq := dD_some hq; obtain ⟨x1, rfl, hq⟩ := hq
  replace hq := dE_some hq; obtain ⟨rfl, hq⟩ := hq
  replace hq := dC_some hq; obtain ⟨y8, l9, rfl, hq⟩ := hq
  replace hq := dA_some hq; obtain ⟨y10, rfl, hq⟩ := hq
  replace hq := dC_some hq; obtain ⟨y11, l12, rfl, hq⟩ := hq
  replace hq := dD_some hq; obtain ⟨x2, rfl, hq⟩ := hq
  replace hq := dC_some hq; obtain ⟨y13, l14, rfl, hq⟩ := hq
  replace hq := dD_some hq; obtain ⟨x3, rfl, hq⟩ := hq
  replace hq := dCI_some hq; obtain ⟨x4, l15, rfl, hq⟩ := hq
  replace hq := dE_some hq; obtain ⟨rfl, hq⟩ := hq
  replace hq := dE_some hq; obtain ⟨rfl, hq⟩ := hq
  replace hq := dE_some hq; obtain ⟨rfl, hq⟩ := hq
  cases hq
  obtain ⟨hc0, rfl, rfl⟩ := pickR_one h2
  exact ⟨41, (fn_eq (by kernel_rfl)).trans ((ev15 _ _ _ _ _).trans (bind_of (ok_val hc0)))⟩
noncomputable def o85 : OrcT := (15, sv15) :: o84
noncomputable def t85 : TellT := t84
noncomputable abbrev tn85 : FuncId → TAn := mkTn base o85 t85
theorem ok85 : TnOk Try.prog tn85 (mkA base) dOk := by
  have h0 : TnOk Try.prog (mkTn base o84 t84) (mkA base) dOk := ok84
  have h1 := tn_orc h0 h0 (p := (15, sv15)) wv15
  exact h1
noncomputable def v16 (x0 : (List Int)) (x1 : (List (List (List Int)))) (x2 : (List (List Int))) (x3 : (List Int)) (x4 : Int) : Option Bool := (cond (ok (v14 x0 x1)) (cond (!val (v14 x0 x1)) (some (false)) (cond (ok (v17 x0 x1 x2)) (cond (!val (v17 x0 x1 x2)) (some (false)) (cond (ok (v23 x0 x1 x3)) (cond (!val (v23 x0 x1 x3)) (some (false)) (cond (decide (x4 < (0 : Int))) (some (false)) (cond (decide (x4 > (1000000000000 : Int))) (some (false)) (cond (ok (v29 x0 x1 x2 x3)) (cond (val (v29 x0 x1 x2 x3)) (cond (ok (v30 x0 x1 x3)) (some (decide (val (v30 x0 x1 x3) ≤ IntKind.wrap IntKind.i64 (IntKind.wrap IntKind.i64 ((1000000 : Int) * (↑(List.length x1) : Int)) + x4)))) none) (some (false))) none)))) none)) none)) none)
theorem ev16 (x0 : (List Int)) (x1 : (List (List (List Int)))) (x2 : (List (List Int))) (x3 : (List Int)) (x4 : Int) : fnBody Try.prog (mkTn base o85 t85 16) (TM.evF Try.prog (mkTn base o85 t85) dOk 40) dOk 40 16 [.agg [.d 3 (.int .i64) (x0), .d 26 (.list 22 (.list 3 (.int .i64))) (x1)], .agg [.d 22 (.list 3 (.int .i64)) (x2), .d 3 (.int .i64) (x3), .int .i64 (x4)]] [] = (v16 x0 x1 x2 x3 x4).bind fun r => some ([.sc (.bool (r))], []) := by
  refine Eq.trans (b := (cond (ok (v14 x0 x1)) (cond (!val (v14 x0 x1)) (some ([.sc (.bool (false))], [])) (cond (ok (v17 x0 x1 x2)) (cond (!val (v17 x0 x1 x2)) (some ([.sc (.bool (false))], [])) (cond (ok (v23 x0 x1 x3)) (cond (!val (v23 x0 x1 x3)) (some ([.sc (.bool (false))], [])) (cond (decide (x4 < (0 : Int))) (some ([.sc (.bool (false))], [])) (cond (decide (x4 > (1000000000000 : Int))) (some ([.sc (.bool (false))], [])) (cond (ok (v29 x0 x1 x2 x3)) (cond (val (v29 x0 x1 x2 x3)) (cond (ok (v30 x0 x1 x3)) (some ([.sc (.bool (decide (val (v30 x0 x1 x3) ≤ IntKind.wrap IntKind.i64 (IntKind.wrap IntKind.i64 ((1000000 : Int) * (↑(List.length x1) : Int)) + x4))))], [])) none) (some ([.sc (.bool (false))], []))) none)))) none)) none)) none)) (by kernel_rfl) ?_
  unfold v16
  cases (ok (v14 x0 x1)) with
  | true =>
    cases (!val (v14 x0 x1)) with
    | true =>
      rfl
    | false =>
      cases (ok (v17 x0 x1 x2)) with
      | true =>
        cases (!val (v17 x0 x1 x2)) with
        | true =>
          rfl
        | false =>
          cases (ok (v23 x0 x1 x3)) with
          | true =>
            cases (!val (v23 x0 x1 x3)) with
            | true =>
              rfl
            | false =>
              cases (decide (x4 < (0 : Int))) with
              | true =>
                rfl
              | false =>
                cases (decide (x4 > (1000000000000 : Int))) with
                | true =>
                  rfl
                | false =>
                  cases (ok (v29 x0 x1 x2 x3)) with
                  | true =>
                    cases (val (v29 x0 x1 x2 x3)) with
                    | true =>
                      cases (ok (v30 x0 x1 x3)) with
                      | true =>
                        rfl
                      | false =>
                        rfl
                    | false =>
                      rfl
                  | false =>
                    rfl
          | false =>
            rfl
      | false =>
        rfl
  | false =>
    rfl
noncomputable def sv16 : OrcS := fun al H => dC al fun y1 l2 => dA y1 fun y3 => dC y3 fun y4 l5 => dD 3 (.int .i64) y4 fun x0 => dC l5 fun y6 l7 => dD 26 (.list 22 (.list 3 (.int .i64))) y6 fun x1 => dE l7 <| dC l2 fun y8 l9 => dA y8 fun y10 => dC y10 fun y11 l12 => dD 22 (.list 3 (.int .i64)) y11 fun x2 => dC l12 fun y13 l14 => dD 3 (.int .i64) y13 fun x3 => dCI .i64 l14 fun x4 l15 => dE l15 <| dE l9 <| dE H <|  some [(ok (v16 x0 x1 x2 x3 x4), [.sc (.bool ((val (v16 x0 x1 x2 x3 x4))))], [])]
theorem wv16 : NewOrc Try.prog dOk base o85 t85 (16, sv16) := by
  intro al H q hq0 rs H2 h2
  have hq : sv16 al H = some q := hq0
  clear hq0
  unfold sv16 at hq
  replace hq := dC_some hq; obtain ⟨y1, l2, rfl, hq⟩ := hq
  replace hq := dA_some hq; obtain ⟨y3, rfl, hq⟩ := hq
  replace hq := dC_some hq; obtain ⟨y4, l5, rfl, hq⟩ := hq
  replace hq := dD_some hq; obtain ⟨x0, rfl, hq⟩ := hq
  replace hq := dC_some hq; obtain ⟨y6, l7, rfl, hq⟩ := hq
  replace hq := dD_some hq; obtain ⟨x1, rfl, hq⟩ := hq
  replace hq := dE_some hq; obtain ⟨rfl, hq⟩ := hq
  replace hq := dC_some hq; obtain ⟨y8, l9, rfl, hq⟩ := hq
  replace hq := dA_some hq; obtain ⟨y10, rfl, hq⟩ := hq
  replace hq := dC_some hq; obtain ⟨y11, l12, rfl, hq⟩ := hq
  replace hq := dD_some hq; obtain ⟨x2, rfl, hq⟩ := hq
  replace hq := dC_some hq; obtain ⟨y13, l14, rfl, hq⟩ := hq
  replace hq := dD_some hq; obtain ⟨x3, rfl, hq⟩ := hq
  replace hq := dCI_some hq; obtain ⟨x4, l15, rfl, hq⟩ := hq
  replace hq := dE_some hq; obtain ⟨rfl, hq⟩ := hq
  replace hq := dE_some hq; obtain ⟨rfl, hq⟩ := hq
  replace hq := dE_some hq; obtain ⟨rfl, hq⟩ := hq
  cases hq
  obtain ⟨hc0, rfl, rfl⟩ := pickR_one h2
  exact ⟨41, (fn_eq (by kernel_rfl)).trans ((ev16 _ _ _ _ _).trans (bind_of (ok_val hc0)))⟩
noncomputable def o86 : OrcT := (16, sv16) :: o85
noncomputable def t86 : TellT := t85
noncomputable abbrev tn86 : FuncId → TAn := mkTn base o86 t86
theorem ok86 : TnOk Try.prog tn86 (mkA base) dOk := by
  have h0 : TnOk Try.prog (mkTn base o85 t85) (mkA base) dOk := ok85
  have h1 := tn_orc h0 h0 (p := (16, sv16)) wv16
  exact h1
noncomputable def v25 : Option ((List Int) × (List (List (List Int)))) := (some ([(2 : Int)], [[[(0 : Int)]], [[(0 : Int)]]]))
theorem ev25 : fnBody Try.prog (mkTn base o86 t86 25) (TM.evF Try.prog (mkTn base o86 t86) dOk 40) dOk 40 25 [] [] = (v25).bind fun r => some ([.agg [.d 3 (.int .i64) (r.1 : List Int), .d 26 (.list 22 (.list 3 (.int .i64))) (r.2 : List (List (List Int)))]], []) := by
  refine Eq.trans (b := (some ([.agg [.d 3 (.int .i64) ([(2 : Int)] : List Int), .d 26 (.list 22 (.list 3 (.int .i64))) ([[[(0 : Int)]], [[(0 : Int)]]] : List (List (List Int)))]], []))) (by kernel_rfl) ?_
  unfold v25
  rfl
noncomputable def sv25 : OrcS := fun al H => dE al <| dE H <|  some [(ok (v25), [.agg [.d 3 (.int .i64) ((val (v25)).1 : List Int), .d 26 (.list 22 (.list 3 (.int .i64))) ((val (v25)).2 : List (List (List Int)))]], [])]
theorem wv25 : NewOrc Try.prog dOk base o86 t86 (25, sv25) := by
  intro al H q hq0 rs H2 h2
  have hq : sv25 al H = some q := hq0
  clear hq0
  unfold sv25 at hq
  replace hq := dE_some hq; obtain ⟨rfl, hq⟩ := hq
  replace hq := dE_some hq; obtain ⟨rfl, hq⟩ := hq
  cases hq
  obtain ⟨hc0, rfl, rfl⟩ := pickR_one h2
  exact ⟨41, (fn_eq (by kernel_rfl)).trans ((ev25 ).trans (bind_of (ok_val hc0)))⟩
noncomputable def o87 : OrcT := (25, sv25) :: o86
noncomputable def t87 : TellT := t86
noncomputable abbrev tn87 : FuncId → TAn := mkTn base o87 t87
theorem ok87 : TnOk Try.prog tn87 (mkA base) dOk := by
  have h0 : TnOk Try.prog (mkTn base o86 t86) (mkA base) dOk := ok86
  have h1 := tn_orc h0 h0 (p := (25, sv25)) wv25
  exact h1
noncomputable def v24 (x0 : Int) (x1 : Int) (x2 : Int) (x3 : Int) (x4 : Int) : Option Bool := (cond (ok (v11 (Prod.fst (val v25)) (Prod.snd (val v25)) [[x0], [x1]] [x2])) (cond (Prod.fst (val (v11 (Prod.fst (val v25)) (Prod.snd (val v25)) [[x0], [x1]] [x2])) == x3) (some (Prod.snd (val (v11 (Prod.fst (val v25)) (Prod.snd (val v25)) [[x0], [x1]] [x2])) == x4)) (some (false))) none)
theorem ev24 (x0 : Int) (x1 : Int) (x2 : Int) (x3 : Int) (x4 : Int) : fnBody Try.prog (mkTn base o87 t87 24) (TM.evF Try.prog (mkTn base o87 t87) dOk 40) dOk 40 24 [.sc (.int .i64 (x0)), .sc (.int .i64 (x1)), .sc (.int .i64 (x2)), .sc (.int .i64 (x3)), .sc (.int .i64 (x4))] [] = (v24 x0 x1 x2 x3 x4).bind fun r => some ([.sc (.bool (r))], []) := by
  refine Eq.trans (b := (cond (ok (v11 (Prod.fst (val v25)) (Prod.snd (val v25)) [[x0], [x1]] [x2])) (cond (Prod.fst (val (v11 (Prod.fst (val v25)) (Prod.snd (val v25)) [[x0], [x1]] [x2])) == x3) (some ([.sc (.bool (Prod.snd (val (v11 (Prod.fst (val v25)) (Prod.snd (val v25)) [[x0], [x1]] [x2])) == x4))], [])) (some ([.sc (.bool (false))], []))) none)) (by kernel_rfl) ?_
  unfold v24
  cases (ok (v11 (Prod.fst (val v25)) (Prod.snd (val v25)) [[x0], [x1]] [x2])) with
  | true =>
    cases (Prod.fst (val (v11 (Prod.fst (val v25)) (Prod.snd (val v25)) [[x0], [x1]] [x2])) == x3) with
    | true =>
      rfl
    | false =>
      rfl
  | false =>
    rfl
noncomputable def sv24 : OrcS := fun al H => dC al fun y1 l2 => dS y1 fun y3 => dInt .i64 y3 fun x0 => dC l2 fun y4 l5 => dS y4 fun y6 => dInt .i64 y6 fun x1 => dC l5 fun y7 l8 => dS y7 fun y9 => dInt .i64 y9 fun x2 => dC l8 fun y10 l11 => dS y10 fun y12 => dInt .i64 y12 fun x3 => dC l11 fun y13 l14 => dS y13 fun y15 => dInt .i64 y15 fun x4 => dE l14 <| dE H <|  some [(ok (v24 x0 x1 x2 x3 x4), [.sc (.bool ((val (v24 x0 x1 x2 x3 x4))))], [])]
theorem wv24 : NewOrc Try.prog dOk base o87 t87 (24, sv24) := by
  intro al H q hq0 rs H2 h2
  have hq : sv24 al H = some q := hq0
  clear hq0
  unfold sv24 at hq
  replace hq := dC_some hq; obtain ⟨y1, l2, rfl, hq⟩ := hq
  replace hq := dS_some hq; obtain ⟨y3, rfl, hq⟩ := hq
  replace hq := dInt_some hq; obtain ⟨x0, rfl, hq⟩ := hq
  replace hq := dC_some hq; obtain ⟨y4, l5, rfl, hq⟩ := hq
  replace hq := dS_some hq; obtain ⟨y6, rfl, hq⟩ := hq
  replace hq := dInt_some hq; obtain ⟨x1, rfl, hq⟩ := hq
  replace hq := dC_some hq; obtain ⟨y7, l8, rfl, hq⟩ := hq
  replace hq := dS_some hq; obtain ⟨y9, rfl, hq⟩ := hq
  replace hq := dInt_some hq; obtain ⟨x2, rfl, hq⟩ := hq
  replace hq := dC_some hq; obtain ⟨y10, l11, rfl, hq⟩ := hq
  replace hq := dS_some hq; obtain ⟨y12, rfl, hq⟩ := hq
  replace hq := dInt_some hq; obtain ⟨x3, rfl, hq⟩ := hq
  replace hq := dC_some hq; obtain ⟨y13, l14, rfl, hq⟩ := hq
  replace hq := dS_some hq; obtain ⟨y15, rfl, hq⟩ := hq
  replace hq := dInt_some hq; obtain ⟨x4, rfl, hq⟩ := hq
  replace hq := dE_some hq; obtain ⟨rfl, hq⟩ := hq
  replace hq := dE_some hq; obtain ⟨rfl, hq⟩ := hq
  cases hq
  obtain ⟨hc0, rfl, rfl⟩ := pickR_one h2
  exact ⟨41, (fn_eq (by kernel_rfl)).trans ((ev24 _ _ _ _ _).trans (bind_of (ok_val hc0)))⟩
noncomputable def o88 : OrcT := (24, sv24) :: o87
noncomputable def t88 : TellT := t87
noncomputable abbrev tn88 : FuncId → TAn := mkTn base o88 t88
theorem ok88 : TnOk Try.prog tn88 (mkA base) dOk := by
  have h0 : TnOk Try.prog (mkTn base o87 t87) (mkA base) dOk := ok87
  have h1 := tn_orc h0 h0 (p := (24, sv24)) wv24
  exact h1
noncomputable def v9 : Option Bool := (some (true))
theorem ev9 : fnBody Try.prog (mkTn base o88 t88 9) (TM.evF Try.prog (mkTn base o88 t88) dOk 40) dOk 40 9 [] [] = (v9).bind fun r => some ([.sc (.bool (r))], []) := by
  refine Eq.trans (b := (some ([.sc (.bool (true))], []))) (by kernel_rfl) ?_
  unfold v9
  rfl
noncomputable def sv9 : OrcS := fun al H => dE al <| dE H <|  some [(ok (v9), [.sc (.bool ((val (v9))))], [])]
theorem wv9 : NewOrc Try.prog dOk base o88 t88 (9, sv9) := by
  intro al H q hq0 rs H2 h2
  have hq : sv9 al H = some q := hq0
  clear hq0
  unfold sv9 at hq
  replace hq := dE_some hq; obtain ⟨rfl, hq⟩ := hq
  replace hq := dE_some hq; obtain ⟨rfl, hq⟩ := hq
  cases hq
  obtain ⟨hc0, rfl, rfl⟩ := pickR_one h2
  exact ⟨41, (fn_eq (by kernel_rfl)).trans ((ev9 ).trans (bind_of (ok_val hc0)))⟩
noncomputable def o89 : OrcT := (9, sv9) :: o88
noncomputable def t89 : TellT := t88
noncomputable abbrev tn89 : FuncId → TAn := mkTn base o89 t89
theorem ok89 : TnOk Try.prog tn89 (mkA base) dOk := by
  have h0 : TnOk Try.prog (mkTn base o88 t88) (mkA base) dOk := ok88
  have h1 := tn_orc h0 h0 (p := (9, sv9)) wv9
  exact h1
noncomputable def L3_36_0 (x0 : (List (List Int))) (x1 : (List Int)) (x2 : Int) (x3 : Bool) (x4 : (List Int)) (x5 : (List (List (List Int)))) : Option Bool := (cond (ok (v11 x4 x5 x0 x1)) (cond (ok (v12 x4 x5 x0 x1)) (cond (x3) (cond (Prod.fst (val (v11 x4 x5 x0 x1)) == Prod.fst (val (v12 x4 x5 x0 x1))) (cond (Prod.snd (val (v11 x4 x5 x0 x1)) == Prod.snd (val (v12 x4 x5 x0 x1))) (cond (ok (v13 x4 x5)) (cond (ok (v14 x4 x5)) (cond (val (v13 x4 x5) == val (v14 x4 x5)) (cond (ok (v15 x4 x5 x0 x1 x2)) (cond (ok (v16 x4 x5 x0 x1 x2)) (some (val (v15 x4 x5 x0 x1 x2) == val (v16 x4 x5 x0 x1 x2))) none) none) (some (false))) none) none) (some (false))) (some (false))) (some (false))) none) none)
noncomputable def xL3_36_0 (x0 : (List (List Int))) (x1 : (List Int)) (x2 : Int) (x3 : Bool) (x4 : (List Int)) (x5 : (List (List (List Int)))) : Bool → Ex × CS := fun r => (.ret, { sl := [(8, .v (.sc (.bool (r))))], lo := [], h := [], n0 := 0, w := true })
theorem bL3_36_0 (k : Nat) (cX : Ex → CS → Option (Ex × CS)) (x0 : (List (List Int))) (x1 : (List Int)) (x2 : Int) (x3 : Bool) (x4 : (List Int)) (x5 : (List (List (List Int)))) : pieceBody Try.prog (mkTn base o89 t89 3) (TM.evF Try.prog (mkTn base o89 t89) dOk (k + 40)) dOk (k + 40) (codeAt Try.prog (tn0 3) 3 36) 0 36 { sl := [(1, .v (.sc (.d 22 (.list 3 (.int .i64)) (x0)))), (2, .v (.sc (.d 3 (.int .i64) (x1)))), (3, .v (.sc (.int .i64 (x2)))), (4, .l 4 0), (9, .v (.sc (.bool (x3))))], lo := [(4, [.d 3 (.int .i64) (x4), .d 26 (.list 22 (.list 3 (.int .i64))) (x5)])], h := [], n0 := 0, w := false } cX = (cond (ok (v11 x4 x5 x0 x1)) (cond (ok (v12 x4 x5 x0 x1)) (cond (x3) (cond (Prod.fst (val (v11 x4 x5 x0 x1)) == Prod.fst (val (v12 x4 x5 x0 x1))) (cond (Prod.snd (val (v11 x4 x5 x0 x1)) == Prod.snd (val (v12 x4 x5 x0 x1))) (cond (ok (v13 x4 x5)) (cond (ok (v14 x4 x5)) (cond (val (v13 x4 x5) == val (v14 x4 x5)) (cond (ok (v15 x4 x5 x0 x1 x2)) (cond (ok (v16 x4 x5 x0 x1 x2)) (cX .ret { sl := [(8, .v (.sc (.bool (val (v15 x4 x5 x0 x1 x2) == val (v16 x4 x5 x0 x1 x2)))))], lo := [], h := [], n0 := 0, w := true }) none) none) (cX .ret { sl := [(8, .v (.sc (.bool (false))))], lo := [], h := [], n0 := 0, w := true })) none) none) (cX .ret { sl := [(8, .v (.sc (.bool (false))))], lo := [], h := [], n0 := 0, w := true })) (cX .ret { sl := [(8, .v (.sc (.bool (false))))], lo := [], h := [], n0 := 0, w := true })) (cX .ret { sl := [(8, .v (.sc (.bool (false))))], lo := [], h := [], n0 := 0, w := true })) none) none) := by kernel_rfl
theorem lL3_36_0 (k : Nat) (x0 : (List (List Int))) (x1 : (List Int)) (x2 : Int) (x3 : Bool) (x4 : (List Int)) (x5 : (List (List (List Int)))) (r : Bool) : L3_36_0 x0 x1 x2 x3 x4 x5 = some r → pieceBody Try.prog (mkTn base o89 t89 3) (TM.evF Try.prog (mkTn base o89 t89) dOk (k + 40)) dOk (k + 40) (codeAt Try.prog (tn0 3) 3 36) 0 36 { sl := [(1, .v (.sc (.d 22 (.list 3 (.int .i64)) (x0)))), (2, .v (.sc (.d 3 (.int .i64) (x1)))), (3, .v (.sc (.int .i64 (x2)))), (4, .l 4 0), (9, .v (.sc (.bool (x3))))], lo := [(4, [.d 3 (.int .i64) (x4), .d 26 (.list 22 (.list 3 (.int .i64))) (x5)])], h := [], n0 := 0, w := false } (fun e s => some (e, s)) = some (xL3_36_0 x0 x1 x2 x3 x4 x5 r) := by
  rw [bL3_36_0]
  unfold L3_36_0
  cases (ok (v11 x4 x5 x0 x1)) with
  | true =>
    cases (ok (v12 x4 x5 x0 x1)) with
    | true =>
      cases x3 with
      | true =>
        cases (Prod.fst (val (v11 x4 x5 x0 x1)) == Prod.fst (val (v12 x4 x5 x0 x1))) with
        | true =>
          cases (Prod.snd (val (v11 x4 x5 x0 x1)) == Prod.snd (val (v12 x4 x5 x0 x1))) with
          | true =>
            cases (ok (v13 x4 x5)) with
            | true =>
              cases (ok (v14 x4 x5)) with
              | true =>
                cases (val (v13 x4 x5) == val (v14 x4 x5)) with
                | true =>
                  cases (ok (v15 x4 x5 x0 x1 x2)) with
                  | true =>
                    cases (ok (v16 x4 x5 x0 x1 x2)) with
                    | true =>
                      intro h; cases h; rfl
                    | false =>
                      intro h; cases h
                  | false =>
                    intro h; cases h
                | false =>
                  intro h; cases h; rfl
              | false =>
                intro h; cases h
            | false =>
              intro h; cases h
          | false =>
            intro h; cases h; rfl
        | false =>
          intro h; cases h; rfl
      | false =>
        intro h; cases h; rfl
    | false =>
      intro h; cases h
  | false =>
    intro h; cases h
noncomputable def sL3_36_0 : TellS := fun S => dCS 0 S fun y1 y2 y3 => dSs 1 y1 fun y5 l4 => dD 22 (.list 3 (.int .i64)) y5 fun x0 => dSs 2 l4 fun y7 l6 => dD 3 (.int .i64) y7 fun x1 => dSI 3 .i64 l6 fun x2 l8 => dSt 4 l8 fun y10 l9 => dL 4 0 y10 <| dSs 9 l9 fun y12 l11 => dBool y12 fun x3 => dE l11 <| dLo 4 y2 fun y13 l14 => dC y13 fun y15 l16 => dD 3 (.int .i64) y15 fun x4 => dC l16 fun y17 l18 => dD 26 (.list 22 (.list 3 (.int .i64))) y17 fun x5 => dE l18 <| dE l14 <| dE y3 <|  some [(ok (L3_36_0 x0 x1 x2 x3 x4 x5), .ret, { sl := [(8, .v (.sc (.bool ((val (L3_36_0 x0 x1 x2 x3 x4 x5))))))], lo := [], h := [], n0 := 0, w := true })]
theorem wL3_36_0 : NewTell Try.prog dOk base o89 t89 ((3, 36), sL3_36_0) := by
  refine ⟨(codeAt Try.prog (tn0 3) 3 36), 0, by kernel_rfl, ?_⟩
  intro S alts e S' h10 h2
  have h1 : sL3_36_0 S = some alts := h10
  clear h10
  unfold sL3_36_0 at h1
  replace h1 := dCS_some h1; obtain ⟨y1, y2, y3, rfl, h1⟩ := h1
  replace h1 := dSs_some h1; obtain ⟨y5, l4, rfl, h1⟩ := h1
  replace h1 := dD_some h1; obtain ⟨x0, rfl, h1⟩ := h1
  replace h1 := dSs_some h1; obtain ⟨y7, l6, rfl, h1⟩ := h1
  replace h1 := dD_some h1; obtain ⟨x1, rfl, h1⟩ := h1
  replace h1 := dSI_some h1; obtain ⟨x2, l8, rfl, h1⟩ := h1
  replace h1 := dSt_some h1; obtain ⟨y10, l9, rfl, h1⟩ := h1
  replace h1 := dL_some h1; obtain ⟨rfl, h1⟩ := h1
  replace h1 := dSs_some h1; obtain ⟨y12, l11, rfl, h1⟩ := h1
  replace h1 := dBool_some h1; obtain ⟨x3, rfl, h1⟩ := h1
  replace h1 := dE_some h1; obtain ⟨rfl, h1⟩ := h1
  replace h1 := dLo_some h1; obtain ⟨y13, l14, rfl, h1⟩ := h1
  replace h1 := dC_some h1; obtain ⟨y15, l16, rfl, h1⟩ := h1
  replace h1 := dD_some h1; obtain ⟨x4, rfl, h1⟩ := h1
  replace h1 := dC_some h1; obtain ⟨y17, l18, rfl, h1⟩ := h1
  replace h1 := dD_some h1; obtain ⟨x5, rfl, h1⟩ := h1
  replace h1 := dE_some h1; obtain ⟨rfl, h1⟩ := h1
  replace h1 := dE_some h1; obtain ⟨rfl, h1⟩ := h1
  replace h1 := dE_some h1; obtain ⟨rfl, h1⟩ := h1
  cases h1
  obtain ⟨hc0, rfl, rfl⟩ := pick_one h2
  exact ⟨0 + 40, (evPiece_code rfl).trans (lL3_36_0 0 _ _ _ _ _ _ _ (ok_val hc0))⟩
noncomputable def o90 : OrcT := o89
noncomputable def t90 : TellT := ((3, 36), sL3_36_0) :: t89
noncomputable abbrev tn90 : FuncId → TAn := mkTn base o90 t90
theorem ok90 : TnOk Try.prog tn90 (mkA base) dOk := by
  have h0 : TnOk Try.prog (mkTn base o89 t89) (mkA base) dOk := ok89
  have h1 := tn_tell h0 h0 (p := ((3, 36), sL3_36_0)) wL3_36_0
  exact h1
noncomputable def v3 (x0 : (List Int)) (x1 : (List (List (List Int)))) (x2 : (List (List Int))) (x3 : (List Int)) (x4 : Int) : Option Bool := (cond (ok (v10 x0 x1 x2 x3)) (cond (!val (v10 x0 x1 x2 x3)) (some (true)) (cond (ok (L3_36_0 x2 x3 x4 (val v9) x0 x1)) (some (val (L3_36_0 x2 x3 x4 (val v9) x0 x1))) none)) none)
theorem ev3 (x0 : (List Int)) (x1 : (List (List (List Int)))) (x2 : (List (List Int))) (x3 : (List Int)) (x4 : Int) : fnBody Try.prog (mkTn base o90 t90 3) (TM.evF Try.prog (mkTn base o90 t90) dOk 40) dOk 40 3 [.agg [.d 3 (.int .i64) (x0), .d 26 (.list 22 (.list 3 (.int .i64))) (x1)], .sc (.d 22 (.list 3 (.int .i64)) (x2)), .sc (.d 3 (.int .i64) (x3)), .sc (.int .i64 (x4))] [] = (v3 x0 x1 x2 x3 x4).bind fun r => some ([.sc (.bool (r))], []) := by
  refine Eq.trans (b := (cond (ok (v10 x0 x1 x2 x3)) (cond (!val (v10 x0 x1 x2 x3)) (some ([.sc (.bool (true))], [])) (cond (ok (L3_36_0 x2 x3 x4 (val v9) x0 x1)) (some ([.sc (.bool (val (L3_36_0 x2 x3 x4 (val v9) x0 x1)))], [])) none)) none)) (by kernel_rfl) ?_
  unfold v3
  cases (ok (v10 x0 x1 x2 x3)) with
  | true =>
    cases (!val (v10 x0 x1 x2 x3)) with
    | true =>
      rfl
    | false =>
      cases (ok (L3_36_0 x2 x3 x4 (val v9) x0 x1)) with
      | true =>
        rfl
      | false =>
        rfl
  | false =>
    rfl
noncomputable def sv3 : OrcS := fun al H => dC al fun y1 l2 => dA y1 fun y3 => dC y3 fun y4 l5 => dD 3 (.int .i64) y4 fun x0 => dC l5 fun y6 l7 => dD 26 (.list 22 (.list 3 (.int .i64))) y6 fun x1 => dE l7 <| dC l2 fun y8 l9 => dS y8 fun y10 => dD 22 (.list 3 (.int .i64)) y10 fun x2 => dC l9 fun y11 l12 => dS y11 fun y13 => dD 3 (.int .i64) y13 fun x3 => dC l12 fun y14 l15 => dS y14 fun y16 => dInt .i64 y16 fun x4 => dE l15 <| dE H <|  some [(ok (v3 x0 x1 x2 x3 x4), [.sc (.bool ((val (v3 x0 x1 x2 x3 x4))))], [])]
theorem wv3 : NewOrc Try.prog dOk base o90 t90 (3, sv3) := by
  intro al H q hq0 rs H2 h2
  have hq : sv3 al H = some q := hq0
  clear hq0
  unfold sv3 at hq
  replace hq := dC_some hq; obtain ⟨y1, l2, rfl, hq⟩ := hq
  replace hq := dA_some hq; obtain ⟨y3, rfl, hq⟩ := hq
  replace hq := dC_some hq; obtain ⟨y4, l5, rfl, hq⟩ := hq
  replace hq := dD_some hq; obtain ⟨x0, rfl, hq⟩ := hq
  replace hq := dC_some hq; obtain ⟨y6, l7, rfl, hq⟩ := hq
  replace hq := dD_some hq; obtain ⟨x1, rfl, hq⟩ := hq
  replace hq := dE_some hq; obtain ⟨rfl, hq⟩ := hq
  replace hq := dC_some hq; obtain ⟨y8, l9, rfl, hq⟩ := hq
  replace hq := dS_some hq; obtain ⟨y10, rfl, hq⟩ := hq
  replace hq := dD_some hq; obtain ⟨x2, rfl, hq⟩ := hq
  replace hq := dC_some hq; obtain ⟨y11, l12, rfl, hq⟩ := hq
  replace hq := dS_some hq; obtain ⟨y13, rfl, hq⟩ := hq
  replace hq := dD_some hq; obtain ⟨x3, rfl, hq⟩ := hq
  replace hq := dC_some hq; obtain ⟨y14, l15, rfl, hq⟩ := hq
  replace hq := dS_some hq; obtain ⟨y16, rfl, hq⟩ := hq
  replace hq := dInt_some hq; obtain ⟨x4, rfl, hq⟩ := hq
  replace hq := dE_some hq; obtain ⟨rfl, hq⟩ := hq
  replace hq := dE_some hq; obtain ⟨rfl, hq⟩ := hq
  cases hq
  obtain ⟨hc0, rfl, rfl⟩ := pickR_one h2
  exact ⟨41, (fn_eq (by kernel_rfl)).trans ((ev3 _ _ _ _ _).trans (bind_of (ok_val hc0)))⟩
noncomputable def o91 : OrcT := (3, sv3) :: o90
noncomputable def t91 : TellT := t90
noncomputable abbrev tn91 : FuncId → TAn := mkTn base o91 t91
theorem ok91 : TnOk Try.prog tn91 (mkA base) dOk := by
  have h0 : TnOk Try.prog (mkTn base o90 t90) (mkA base) dOk := ok90
  have h1 := tn_orc h0 h0 (p := (3, sv3)) wv3
  exact h1
end Go.Proofs.Ytajodcnnadbjkaa
