/- What some functions and loops come to: printed and checked. Written by a program of ours. -/
import Derived.Test.YtajodcnnadbjkaaG0
set_option linter.all false
set_option linter.constructorNameAsVariable false
set_option linter.unnecessarySimpa false
set_option linter.unusedSimpArgs false
set_option linter.unusedVariables false
set_option maxRecDepth 1000000
set_option linter.unusedVariables false
set_option maxHeartbeats 4000000
namespace Go.Proofs.Ytajodcnnadbjkaa
open Go Go.AM Go.TM Go.Proofs
noncomputable def vR (x0 : Int) (x1 : (List Int)) (x2 : Int) (x3 : (List Int)) (x4 : (List Int)) : Option ((List Int) × (List Int)) := (cond (decide ((0 : Int) ≤ x0)) (cond (decide (x0 < (↑(List.length x4) : Int))) (cond (decide (Int.toNat x0 < List.length x4)) (cond (ok (L27_16_0 FU x1 (↑(List.length x1) : Int) (0 : Int) x1 x2 x3 (List.set x4 (Int.toNat x0) (IntKind.wrap IntKind.i64 (List.getD x4 (Int.toNat x0) (0 : Int) + x2))))) (some (val (L27_16_0 FU x1 (↑(List.length x1) : Int) (0 : Int) x1 x2 x3 (List.set x4 (Int.toNat x0) (IntKind.wrap IntKind.i64 (List.getD x4 (Int.toNat x0) (0 : Int) + x2)))), List.set x4 (Int.toNat x0) (IntKind.wrap IntKind.i64 (List.getD x4 (Int.toNat x0) (0 : Int) + x2)))) none) none) none) none)
theorem evR (x0 : Int) (x1 : (List Int)) (x2 : Int) (x3 : (List Int)) (x4 : (List Int)) : evY Try.prog (mkTn base o42 t42) (TM.evF Try.prog (mkTn base o42 t42) dOk 40) dOk 40 [.sc (.yl 0), .sc (.int .i64 (x0)), .agg [.d 3 (.int .i64) (x1), .int .i64 (x2)]] [.loop 0 none 27 41 106 [(7, .v (.sc (.ptr 1 0))), (8, .v (.sc (.ptr 3 0)))], .box 22 [.g 2], .row 3 (.int .i64) (x3), .box 22 [.g 4], .row 3 (.int .i64) (x4)] = (vR x0 x1 x2 x3 x4).bind fun r => some ([.sc (.bool (true))], [.loop 0 none 27 41 106 [(7, .v (.sc (.ptr 1 0))), (8, .v (.sc (.ptr 3 0)))], .box 22 [.g 2], .row 3 (.int .i64) (r.1 : List Int), .box 22 [.g 4], .row 3 (.int .i64) (r.2 : List Int)]) := by
  refine Eq.trans (b := (cond (decide ((0 : Int) ≤ x0)) (cond (decide (x0 < (↑(List.length x4) : Int))) (cond (decide (Int.toNat x0 < List.length x4)) (cond (decide ((0 : Int) ≤ x0)) (cond (decide (x0 < (↑(List.length x4) : Int))) (cond (decide (Int.toNat x0 < List.length x4)) (cond (ok (L27_16_0 FU x1 (↑(List.length x1) : Int) (0 : Int) x1 x2 x3 (List.set x4 (Int.toNat x0) (IntKind.wrap IntKind.i64 (List.getD x4 (Int.toNat x0) (0 : Int) + x2))))) (some ([.sc (.bool (true))], [.loop 0 none 27 41 106 [(7, .v (.sc (.ptr 1 0))), (8, .v (.sc (.ptr 3 0)))], .box 22 [.g 2], .row 3 (.int .i64) (val (L27_16_0 FU x1 (↑(List.length x1) : Int) (0 : Int) x1 x2 x3 (List.set x4 (Int.toNat x0) (IntKind.wrap IntKind.i64 (List.getD x4 (Int.toNat x0) (0 : Int) + x2)))) : List Int), .box 22 [.g 4], .row 3 (.int .i64) (List.set x4 (Int.toNat x0) (IntKind.wrap IntKind.i64 (List.getD x4 (Int.toNat x0) (0 : Int) + x2)) : List Int)])) none) none) none) none) none) none) none)) (by kernel_rfl) ?_
  unfold vR
  cases (decide ((0 : Int) ≤ x0)) with
  | true =>
    cases (decide (x0 < (↑(List.length x4) : Int))) with
    | true =>
      cases (decide (Int.toNat x0 < List.length x4)) with
      | true =>
        cases (ok (L27_16_0 FU x1 (↑(List.length x1) : Int) (0 : Int) x1 x2 x3 (List.set x4 (Int.toNat x0) (IntKind.wrap IntKind.i64 (List.getD x4 (Int.toNat x0) (0 : Int) + x2))))) with
        | true =>
          rfl
        | false =>
          rfl
      | false =>
        rfl
    | false =>
      rfl
  | false =>
    rfl
noncomputable def svR : OrcS := fun al H => dC al fun y1 l2 => dS y1 fun y3 => dYl 0 y3 <| dC l2 fun y4 l5 => dS y4 fun y6 => dInt .i64 y6 fun x0 => dC l5 fun y7 l8 => dA y7 fun y9 => dC y9 fun y10 l11 => dD 3 (.int .i64) y10 fun x1 => dCI .i64 l11 fun x2 l12 => dE l12 <| dE l8 <| dC H fun y14 l13 => dLoop 0 none 27 41 106 y14 fun y15 => dSs 7 y15 fun y17 l16 => dPtr 1 0 y17 <| dSs 8 l16 fun y19 l18 => dPtr 3 0 y19 <| dE l18 <| dHB 22 l13 fun y21 l20 => dC y21 fun y22 l23 => dG 2 y22 <| dE l23 <| dHR 3 (.int .i64) l20 fun x3 l24 => dHB 22 l24 fun y26 l25 => dC y26 fun y27 l28 => dG 4 y27 <| dE l28 <| dHR 3 (.int .i64) l25 fun x4 l29 => dE l29 <|  some [(ok (vR x0 x1 x2 x3 x4), [.sc (.bool (true))], [.loop 0 none 27 41 106 [(7, .v (.sc (.ptr 1 0))), (8, .v (.sc (.ptr 3 0)))], .box 22 [.g 2], .row 3 (.int .i64) ((val (vR x0 x1 x2 x3 x4)).1 : List Int), .box 22 [.g 4], .row 3 (.int .i64) ((val (vR x0 x1 x2 x3 x4)).2 : List Int)])]
theorem wvR : NewOrc Try.prog dOk base o42 t42 (4294967295, svR) := by
  intro al H q hq0 rs H2 h2
  have hq : svR al H = some q := hq0
  clear hq0
  unfold svR at hq
  replace hq := dC_some hq; obtain ⟨y1, l2, rfl, hq⟩ := hq
  replace hq := dS_some hq; obtain ⟨y3, rfl, hq⟩ := hq
  replace hq := dYl_some hq; obtain ⟨rfl, hq⟩ := hq
  replace hq := dC_some hq; obtain ⟨y4, l5, rfl, hq⟩ := hq
  replace hq := dS_some hq; obtain ⟨y6, rfl, hq⟩ := hq
  replace hq := dInt_some hq; obtain ⟨x0, rfl, hq⟩ := hq
  replace hq := dC_some hq; obtain ⟨y7, l8, rfl, hq⟩ := hq
  replace hq := dA_some hq; obtain ⟨y9, rfl, hq⟩ := hq
  replace hq := dC_some hq; obtain ⟨y10, l11, rfl, hq⟩ := hq
  replace hq := dD_some hq; obtain ⟨x1, rfl, hq⟩ := hq
  replace hq := dCI_some hq; obtain ⟨x2, l12, rfl, hq⟩ := hq
  replace hq := dE_some hq; obtain ⟨rfl, hq⟩ := hq
  replace hq := dE_some hq; obtain ⟨rfl, hq⟩ := hq
  replace hq := dC_some hq; obtain ⟨y14, l13, rfl, hq⟩ := hq
  replace hq := dLoop_some hq; obtain ⟨y15, rfl, hq⟩ := hq
  replace hq := dSs_some hq; obtain ⟨y17, l16, rfl, hq⟩ := hq
  replace hq := dPtr_some hq; obtain ⟨rfl, hq⟩ := hq
  replace hq := dSs_some hq; obtain ⟨y19, l18, rfl, hq⟩ := hq
  replace hq := dPtr_some hq; obtain ⟨rfl, hq⟩ := hq
  replace hq := dE_some hq; obtain ⟨rfl, hq⟩ := hq
  replace hq := dHB_some hq; obtain ⟨y21, l20, rfl, hq⟩ := hq
  replace hq := dC_some hq; obtain ⟨y22, l23, rfl, hq⟩ := hq
  replace hq := dG_some hq; obtain ⟨rfl, hq⟩ := hq
  replace hq := dE_some hq; obtain ⟨rfl, hq⟩ := hq
  replace hq := dHR_some hq; obtain ⟨x3, l24, rfl, hq⟩ := hq
  replace hq := dHB_some hq; obtain ⟨y26, l25, rfl, hq⟩ := hq
  replace hq := dC_some hq; obtain ⟨y27, l28, rfl, hq⟩ := hq
  replace hq := dG_some hq; obtain ⟨rfl, hq⟩ := hq
  replace hq := dE_some hq; obtain ⟨rfl, hq⟩ := hq
  replace hq := dHR_some hq; obtain ⟨x4, l29, rfl, hq⟩ := hq
  replace hq := dE_some hq; obtain ⟨rfl, hq⟩ := hq
  cases hq
  obtain ⟨hc0, rfl, rfl⟩ := pickR_one h2
  exact ⟨41, fnY_eq.trans ((evR _ _ _ _ _).trans (bind_of (ok_val hc0)))⟩
noncomputable def o43 : OrcT := (4294967295, svR) :: o42
noncomputable def t43 : TellT := t42
noncomputable abbrev tn43 : FuncId → TAn := mkTn base o43 t43
theorem ok43 : TnOk Try.prog tn43 (mkA base) dOk := by
  have h0 : TnOk Try.prog (mkTn base o42 t42) (mkA base) dOk := ok42
  have h1 := tn_orc h0 h0 (p := (4294967295, svR)) wvR
  exact h1
noncomputable def L52_16_0 : Nat → Int → (List (List (List Int))) → Int → Int → (List (List Int)) → Int → Int → (List Int) → (List Int) → (List Int) → (List (List (List Int))) → (List (List Int)) → Option ((List Int) × (List Int))
  | 0, _, _, _, _, _, _, _, _, _, _, _, _ => none
  | n + 1, x0, x1, x2, x3, x4, x5, x6, x7, x8, x9, x10, x11 => (cond (decide (x6 < x5)) (cond (decide ((0 : Int) ≤ x6)) (cond (decide (x6 < (↑(List.length x4) : Int))) (cond (decide ((0 : Int) ≤ x0)) (cond (decide (x0 < (↑(List.length x11) : Int))) (cond (decide (x6 < (↑(List.length (List.getD x11 (Int.toNat x0) [])) : Int))) (cond (ok (vR x0 (List.getD x4 (Int.toNat x6) []) (List.getD (List.getD x11 (Int.toNat x0) []) (Int.toNat x6) (0 : Int)) x7 x8)) (L52_16_0 n (x0) (x1) (x2) (x3) (x4) (x5) (IntKind.wrap IntKind.i64 (x6 + (1 : Int))) (Prod.fst (val (vR x0 (List.getD x4 (Int.toNat x6) []) (List.getD (List.getD x11 (Int.toNat x0) []) (Int.toNat x6) (0 : Int)) x7 x8))) (Prod.snd (val (vR x0 (List.getD x4 (Int.toNat x6) []) (List.getD (List.getD x11 (Int.toNat x0) []) (Int.toNat x6) (0 : Int)) x7 x8))) (x9) (x10) (x11)) none) none) none) none) none) none) (some (x7, x8)))
theorem qL52_16_0 : type_of% @L52_16_0.eq_2 := @L52_16_0.eq_2
noncomputable def xL52_16_0 (x0 : Int) (x1 : (List (List (List Int)))) (x2 : Int) (x3 : Int) (x4 : (List (List Int))) (x5 : Int) (x6 : Int) (x7 : (List Int)) (x8 : (List Int)) (x9 : (List Int)) (x10 : (List (List (List Int)))) (x11 : (List (List Int))) : ((List Int) × (List Int)) → Ex × CS := fun r => ((.exit 2), { sl := [(0, .v (.sc (.yl 0))), (2, .v (.sc (.ptr 6 0))), (9, .v (.sc (.d 26 (.list 22 (.list 3 (.int .i64))) (x1)))), (10, .v (.sc (.int .i64 (x2)))), (11, .v (.sc (.int .i64 (x3))))], lo := [], h := [.loop 0 none 27 41 106 [(7, .v (.sc (.ptr 1 0))), (8, .v (.sc (.ptr 3 0)))], .box 22 [.g 2], .row 3 (.int .i64) (r.1 : List Int), .box 22 [.g 4], .row 3 (.int .i64) (r.2 : List Int), .box 25 [.d 3 (.int .i64) (x9), .d 26 (.list 22 (.list 3 (.int .i64))) (x10)], .box 26 [.d 22 (.list 3 (.int .i64)) (x11)]], n0 := 7, w := false })
theorem bL52_16_0 (k : Nat) (cN : CS → Option (Ex × CS)) (cX : Ex → CS → Option (Ex × CS)) (x0 : Int) (x1 : (List (List (List Int)))) (x2 : Int) (x3 : Int) (x4 : (List (List Int))) (x5 : Int) (x6 : Int) (x7 : (List Int)) (x8 : (List Int)) (x9 : (List Int)) (x10 : (List (List (List Int)))) (x11 : (List (List Int))) : loopBody Try.prog (mkTn base o43 t43 52) (TM.evF Try.prog (mkTn base o43 t43) dOk (k + 40)) dOk (k + 40) (codeAt Try.prog (tn0 52) 52 16) 2 16 { sl := [(0, .v (.sc (.yl 0))), (2, .v (.sc (.ptr 6 0))), (4, .v (.sc (.int .i64 (x0)))), (9, .v (.sc (.d 26 (.list 22 (.list 3 (.int .i64))) (x1)))), (10, .v (.sc (.int .i64 (x2)))), (11, .v (.sc (.int .i64 (x3)))), (16, .v (.sc (.d 22 (.list 3 (.int .i64)) (x4)))), (17, .v (.sc (.int .i64 (x5)))), (18, .v (.sc (.int .i64 (x6))))], lo := [], h := [.loop 0 none 27 41 106 [(7, .v (.sc (.ptr 1 0))), (8, .v (.sc (.ptr 3 0)))], .box 22 [.g 2], .row 3 (.int .i64) (x7), .box 22 [.g 4], .row 3 (.int .i64) (x8), .box 25 [.d 3 (.int .i64) (x9), .d 26 (.list 22 (.list 3 (.int .i64))) (x10)], .box 26 [.d 22 (.list 3 (.int .i64)) (x11)]], n0 := 7, w := false } cN cX = (cond (decide (x6 < x5)) (cond (decide ((0 : Int) ≤ x6)) (cond (decide (x6 < (↑(List.length x4) : Int))) (cond (decide ((0 : Int) ≤ x0)) (cond (decide (x0 < (↑(List.length x11) : Int))) (cond (decide ((0 : Int) ≤ x6)) (cond (decide (x6 < (↑(List.length (List.getD x11 (Int.toNat x0) [])) : Int))) (cond (ok (vR x0 (List.getD x4 (Int.toNat x6) []) (List.getD (List.getD x11 (Int.toNat x0) []) (Int.toNat x6) (0 : Int)) x7 x8)) (cN { sl := [(0, .v (.sc (.yl 0))), (2, .v (.sc (.ptr 6 0))), (4, .v (.sc (.int .i64 (x0)))), (9, .v (.sc (.d 26 (.list 22 (.list 3 (.int .i64))) (x1)))), (10, .v (.sc (.int .i64 (x2)))), (11, .v (.sc (.int .i64 (x3)))), (16, .v (.sc (.d 22 (.list 3 (.int .i64)) (x4)))), (17, .v (.sc (.int .i64 (x5)))), (18, .v (.sc (.int .i64 (IntKind.wrap IntKind.i64 (x6 + (1 : Int))))))], lo := [], h := [.loop 0 none 27 41 106 [(7, .v (.sc (.ptr 1 0))), (8, .v (.sc (.ptr 3 0)))], .box 22 [.g 2], .row 3 (.int .i64) (Prod.fst (val (vR x0 (List.getD x4 (Int.toNat x6) []) (List.getD (List.getD x11 (Int.toNat x0) []) (Int.toNat x6) (0 : Int)) x7 x8)) : List Int), .box 22 [.g 4], .row 3 (.int .i64) (Prod.snd (val (vR x0 (List.getD x4 (Int.toNat x6) []) (List.getD (List.getD x11 (Int.toNat x0) []) (Int.toNat x6) (0 : Int)) x7 x8)) : List Int), .box 25 [.d 3 (.int .i64) (x9), .d 26 (.list 22 (.list 3 (.int .i64))) (x10)], .box 26 [.d 22 (.list 3 (.int .i64)) (x11)]], n0 := 7, w := false }) none) none) none) none) none) none) none) (cX (.exit 2) { sl := [(0, .v (.sc (.yl 0))), (2, .v (.sc (.ptr 6 0))), (9, .v (.sc (.d 26 (.list 22 (.list 3 (.int .i64))) (x1)))), (10, .v (.sc (.int .i64 (x2)))), (11, .v (.sc (.int .i64 (x3))))], lo := [], h := [.loop 0 none 27 41 106 [(7, .v (.sc (.ptr 1 0))), (8, .v (.sc (.ptr 3 0)))], .box 22 [.g 2], .row 3 (.int .i64) (x7), .box 22 [.g 4], .row 3 (.int .i64) (x8), .box 25 [.d 3 (.int .i64) (x9), .d 26 (.list 22 (.list 3 (.int .i64))) (x10)], .box 26 [.d 22 (.list 3 (.int .i64)) (x11)]], n0 := 7, w := false })) := by kernel_rfl
theorem lL52_16_0 (k m : Nat) : ∀ (n : Nat) (x0 : Int) (x1 : (List (List (List Int)))) (x2 : Int) (x3 : Int) (x4 : (List (List Int))) (x5 : Int) (x6 : Int) (x7 : (List Int)) (x8 : (List Int)) (x9 : (List Int)) (x10 : (List (List (List Int)))) (x11 : (List (List Int))) (r : ((List Int) × (List Int))), L52_16_0 n x0 x1 x2 x3 x4 x5 x6 x7 x8 x9 x10 x11 = some r → loopE Try.prog (mkTn base o43 t43 52) (TM.evF Try.prog (mkTn base o43 t43) dOk (k + 40)) dOk (k + 40) (codeAt Try.prog (tn0 52) 52 16) 2 16 (n + m) { sl := [(0, .v (.sc (.yl 0))), (2, .v (.sc (.ptr 6 0))), (4, .v (.sc (.int .i64 (x0)))), (9, .v (.sc (.d 26 (.list 22 (.list 3 (.int .i64))) (x1)))), (10, .v (.sc (.int .i64 (x2)))), (11, .v (.sc (.int .i64 (x3)))), (16, .v (.sc (.d 22 (.list 3 (.int .i64)) (x4)))), (17, .v (.sc (.int .i64 (x5)))), (18, .v (.sc (.int .i64 (x6))))], lo := [], h := [.loop 0 none 27 41 106 [(7, .v (.sc (.ptr 1 0))), (8, .v (.sc (.ptr 3 0)))], .box 22 [.g 2], .row 3 (.int .i64) (x7), .box 22 [.g 4], .row 3 (.int .i64) (x8), .box 25 [.d 3 (.int .i64) (x9), .d 26 (.list 22 (.list 3 (.int .i64))) (x10)], .box 26 [.d 22 (.list 3 (.int .i64)) (x11)]], n0 := 7, w := false } = some (xL52_16_0 x0 x1 x2 x3 x4 x5 x6 x7 x8 x9 x10 x11 r) := by
  intro n
  induction n with
  | zero => intro _ _ _ _ _ _ _ _ _ _ _ _ r h; cases h
  | succ n ih =>
    intro x0 x1 x2 x3 x4 x5 x6 x7 x8 x9 x10 x11 r
    rw [show n + 1 + m = n + m + 1 by omega, loop_step, bL52_16_0, qL52_16_0]
    cases (decide (x6 < x5)) with
    | true =>
      cases (decide ((0 : Int) ≤ x6)) with
      | true =>
        cases (decide (x6 < (↑(List.length x4) : Int))) with
        | true =>
          cases (decide ((0 : Int) ≤ x0)) with
          | true =>
            cases (decide (x0 < (↑(List.length x11) : Int))) with
            | true =>
              cases (decide (x6 < (↑(List.length (List.getD x11 (Int.toNat x0) [])) : Int))) with
              | true =>
                cases (ok (vR x0 (List.getD x4 (Int.toNat x6) []) (List.getD (List.getD x11 (Int.toNat x0) []) (Int.toNat x6) (0 : Int)) x7 x8)) with
                | true =>
                  exact ih _ _ _ _ _ _ _ _ _ _ _ _ r
                | false =>
                  intro h; cases h
              | false =>
                intro h; cases h
            | false =>
              intro h; cases h
          | false =>
            intro h; cases h
        | false =>
          intro h; cases h
      | false =>
        intro h; cases h
    | false =>
      intro h; cases h; rfl
noncomputable def sL52_16_0 : TellS := fun S => dCS 7 S fun y1 y2 y3 => dSs 0 y1 fun y5 l4 => dYl 0 y5 <| dSs 2 l4 fun y7 l6 => dPtr 6 0 y7 <| dSI 4 .i64 l6 fun x0 l8 => dSs 9 l8 fun y10 l9 => dD 26 (.list 22 (.list 3 (.int .i64))) y10 fun x1 => dSI 10 .i64 l9 fun x2 l11 => dSI 11 .i64 l11 fun x3 l12 => dSs 16 l12 fun y14 l13 => dD 22 (.list 3 (.int .i64)) y14 fun x4 => dSI 17 .i64 l13 fun x5 l15 => dSI 18 .i64 l15 fun x6 l16 => dE l16 <| dE y2 <| dC y3 fun y18 l17 => dLoop 0 none 27 41 106 y18 fun y19 => dSs 7 y19 fun y21 l20 => dPtr 1 0 y21 <| dSs 8 l20 fun y23 l22 => dPtr 3 0 y23 <| dE l22 <| dHB 22 l17 fun y25 l24 => dC y25 fun y26 l27 => dG 2 y26 <| dE l27 <| dHR 3 (.int .i64) l24 fun x7 l28 => dHB 22 l28 fun y30 l29 => dC y30 fun y31 l32 => dG 4 y31 <| dE l32 <| dHR 3 (.int .i64) l29 fun x8 l33 => dHB 25 l33 fun y35 l34 => dC y35 fun y36 l37 => dD 3 (.int .i64) y36 fun x9 => dC l37 fun y38 l39 => dD 26 (.list 22 (.list 3 (.int .i64))) y38 fun x10 => dE l39 <| dHB 26 l34 fun y41 l40 => dC y41 fun y42 l43 => dD 22 (.list 3 (.int .i64)) y42 fun x11 => dE l43 <| dE l40 <|  some [(ok (L52_16_0 FU x0 x1 x2 x3 x4 x5 x6 x7 x8 x9 x10 x11), (.exit 2), { sl := [(0, .v (.sc (.yl 0))), (2, .v (.sc (.ptr 6 0))), (9, .v (.sc (.d 26 (.list 22 (.list 3 (.int .i64))) (x1)))), (10, .v (.sc (.int .i64 (x2)))), (11, .v (.sc (.int .i64 (x3))))], lo := [], h := [.loop 0 none 27 41 106 [(7, .v (.sc (.ptr 1 0))), (8, .v (.sc (.ptr 3 0)))], .box 22 [.g 2], .row 3 (.int .i64) ((val (L52_16_0 FU x0 x1 x2 x3 x4 x5 x6 x7 x8 x9 x10 x11)).1 : List Int), .box 22 [.g 4], .row 3 (.int .i64) ((val (L52_16_0 FU x0 x1 x2 x3 x4 x5 x6 x7 x8 x9 x10 x11)).2 : List Int), .box 25 [.d 3 (.int .i64) (x9), .d 26 (.list 22 (.list 3 (.int .i64))) (x10)], .box 26 [.d 22 (.list 3 (.int .i64)) (x11)]], n0 := 7, w := false })]
theorem wL52_16_0 : NewTell Try.prog dOk base o43 t43 ((52, 16), sL52_16_0) := by
  refine ⟨.loop (codeAt Try.prog (tn0 52) 52 16), 2, by kernel_rfl, ?_⟩
  intro S alts e S' h10 h2
  have h1 : sL52_16_0 S = some alts := h10
  clear h10
  unfold sL52_16_0 at h1
  replace h1 := dCS_some h1; obtain ⟨y1, y2, y3, rfl, h1⟩ := h1
  replace h1 := dSs_some h1; obtain ⟨y5, l4, rfl, h1⟩ := h1
  replace h1 := dYl_some h1; obtain ⟨rfl, h1⟩ := h1
  replace h1 := dSs_some h1; obtain ⟨y7, l6, rfl, h1⟩ := h1
  replace h1 := dPtr_some h1; obtain ⟨rfl, h1⟩ := h1
  replace h1 := dSI_some h1; obtain ⟨x0, l8, rfl, h1⟩ := h1
  replace h1 := dSs_some h1; obtain ⟨y10, l9, rfl, h1⟩ := h1
  replace h1 := dD_some h1; obtain ⟨x1, rfl, h1⟩ := h1
  replace h1 := dSI_some h1; obtain ⟨x2, l11, rfl, h1⟩ := h1
  replace h1 := dSI_some h1; obtain ⟨x3, l12, rfl, h1⟩ := h1
  replace h1 := dSs_some h1; obtain ⟨y14, l13, rfl, h1⟩ := h1
  replace h1 := dD_some h1; obtain ⟨x4, rfl, h1⟩ := h1
  replace h1 := dSI_some h1; obtain ⟨x5, l15, rfl, h1⟩ := h1
  replace h1 := dSI_some h1; obtain ⟨x6, l16, rfl, h1⟩ := h1
  replace h1 := dE_some h1; obtain ⟨rfl, h1⟩ := h1
  replace h1 := dE_some h1; obtain ⟨rfl, h1⟩ := h1
  replace h1 := dC_some h1; obtain ⟨y18, l17, rfl, h1⟩ := h1
  replace h1 := dLoop_some h1; obtain ⟨y19, rfl, h1⟩ := h1
  replace h1 := dSs_some h1; obtain ⟨y21, l20, rfl, h1⟩ := h1
  replace h1 := dPtr_some h1; obtain ⟨rfl, h1⟩ := h1
  replace h1 := dSs_some h1; obtain ⟨y23, l22, rfl, h1⟩ := h1
  replace h1 := dPtr_some h1; obtain ⟨rfl, h1⟩ := h1
  replace h1 := dE_some h1; obtain ⟨rfl, h1⟩ := h1
  replace h1 := dHB_some h1; obtain ⟨y25, l24, rfl, h1⟩ := h1
  replace h1 := dC_some h1; obtain ⟨y26, l27, rfl, h1⟩ := h1
  replace h1 := dG_some h1; obtain ⟨rfl, h1⟩ := h1
  replace h1 := dE_some h1; obtain ⟨rfl, h1⟩ := h1
  replace h1 := dHR_some h1; obtain ⟨x7, l28, rfl, h1⟩ := h1
  replace h1 := dHB_some h1; obtain ⟨y30, l29, rfl, h1⟩ := h1
  replace h1 := dC_some h1; obtain ⟨y31, l32, rfl, h1⟩ := h1
  replace h1 := dG_some h1; obtain ⟨rfl, h1⟩ := h1
  replace h1 := dE_some h1; obtain ⟨rfl, h1⟩ := h1
  replace h1 := dHR_some h1; obtain ⟨x8, l33, rfl, h1⟩ := h1
  replace h1 := dHB_some h1; obtain ⟨y35, l34, rfl, h1⟩ := h1
  replace h1 := dC_some h1; obtain ⟨y36, l37, rfl, h1⟩ := h1
  replace h1 := dD_some h1; obtain ⟨x9, rfl, h1⟩ := h1
  replace h1 := dC_some h1; obtain ⟨y38, l39, rfl, h1⟩ := h1
  replace h1 := dD_some h1; obtain ⟨x10, rfl, h1⟩ := h1
  replace h1 := dE_some h1; obtain ⟨rfl, h1⟩ := h1
  replace h1 := dHB_some h1; obtain ⟨y41, l40, rfl, h1⟩ := h1
  replace h1 := dC_some h1; obtain ⟨y42, l43, rfl, h1⟩ := h1
  replace h1 := dD_some h1; obtain ⟨x11, rfl, h1⟩ := h1
  replace h1 := dE_some h1; obtain ⟨rfl, h1⟩ := h1
  replace h1 := dE_some h1; obtain ⟨rfl, h1⟩ := h1
  cases h1
  obtain ⟨hc0, rfl, rfl⟩ := pick_one h2
  exact ⟨FU + 40, (evPiece_loop rfl).trans (lL52_16_0 FU 40 FU _ _ _ _ _ _ _ _ _ _ _ _ _ (ok_val hc0))⟩
noncomputable def o44 : OrcT := o43
noncomputable def t44 : TellT := ((52, 16), sL52_16_0) :: t43
noncomputable abbrev tn44 : FuncId → TAn := mkTn base o44 t44
theorem ok44 : TnOk Try.prog tn44 (mkA base) dOk := by
  have h0 : TnOk Try.prog (mkTn base o43 t43) (mkA base) dOk := ok43
  have h1 := tn_tell h0 h0 (p := ((52, 16), sL52_16_0)) wL52_16_0
  exact h1
noncomputable def L52_0_0 : Nat → (List (List (List Int))) → Int → Int → (List Int) → (List Int) → (List Int) → (List (List (List Int))) → (List (List Int)) → Option ((List Int) × (List Int))
  | 0, _, _, _, _, _, _, _, _ => none
  | n + 1, x0, x1, x2, x3, x4, x5, x6, x7 => (cond (decide (x2 < x1)) (cond (decide ((0 : Int) ≤ x2)) (cond (decide (x2 < (↑(List.length x0) : Int))) (cond (ok (L52_16_0 FU x2 x0 x1 x2 (List.getD x0 (Int.toNat x2) []) (↑(List.length (List.getD x0 (Int.toNat x2) [])) : Int) (0 : Int) x3 x4 x5 x6 x7)) (L52_0_0 n (x0) (x1) (IntKind.wrap IntKind.i64 (x2 + (1 : Int))) (Prod.fst (val (L52_16_0 FU x2 x0 x1 x2 (List.getD x0 (Int.toNat x2) []) (↑(List.length (List.getD x0 (Int.toNat x2) [])) : Int) (0 : Int) x3 x4 x5 x6 x7))) (Prod.snd (val (L52_16_0 FU x2 x0 x1 x2 (List.getD x0 (Int.toNat x2) []) (↑(List.length (List.getD x0 (Int.toNat x2) [])) : Int) (0 : Int) x3 x4 x5 x6 x7))) (x5) (x6) (x7)) none) none) none) (some (x3, x4)))
theorem qL52_0_0 : type_of% @L52_0_0.eq_2 := @L52_0_0.eq_2
noncomputable def xL52_0_0 (x0 : (List (List (List Int)))) (x1 : Int) (x2 : Int) (x3 : (List Int)) (x4 : (List Int)) (x5 : (List Int)) (x6 : (List (List (List Int)))) (x7 : (List (List Int))) : ((List Int) × (List Int)) → Ex × CS := fun r => ((.exit 0), { sl := [], lo := [], h := [.loop 0 none 27 41 106 [(7, .v (.sc (.ptr 1 0))), (8, .v (.sc (.ptr 3 0)))], .box 22 [.g 2], .row 3 (.int .i64) (r.1 : List Int), .box 22 [.g 4], .row 3 (.int .i64) (r.2 : List Int), .box 25 [.d 3 (.int .i64) (x5), .d 26 (.list 22 (.list 3 (.int .i64))) (x6)], .box 26 [.d 22 (.list 3 (.int .i64)) (x7)]], n0 := 7, w := false })
theorem bL52_0_0 (k : Nat) (cN : CS → Option (Ex × CS)) (cX : Ex → CS → Option (Ex × CS)) (x0 : (List (List (List Int)))) (x1 : Int) (x2 : Int) (x3 : (List Int)) (x4 : (List Int)) (x5 : (List Int)) (x6 : (List (List (List Int)))) (x7 : (List (List Int))) : loopBody Try.prog (mkTn base o44 t44 52) (TM.evF Try.prog (mkTn base o44 t44) dOk (k + 40)) dOk (k + 40) (codeAt Try.prog (tn0 52) 52 0) 0 0 { sl := [(0, .v (.sc (.yl 0))), (2, .v (.sc (.ptr 6 0))), (9, .v (.sc (.d 26 (.list 22 (.list 3 (.int .i64))) (x0)))), (10, .v (.sc (.int .i64 (x1)))), (11, .v (.sc (.int .i64 (x2))))], lo := [], h := [.loop 0 none 27 41 106 [(7, .v (.sc (.ptr 1 0))), (8, .v (.sc (.ptr 3 0)))], .box 22 [.g 2], .row 3 (.int .i64) (x3), .box 22 [.g 4], .row 3 (.int .i64) (x4), .box 25 [.d 3 (.int .i64) (x5), .d 26 (.list 22 (.list 3 (.int .i64))) (x6)], .box 26 [.d 22 (.list 3 (.int .i64)) (x7)]], n0 := 7, w := false } cN cX = (cond (decide (x2 < x1)) (cond (decide ((0 : Int) ≤ x2)) (cond (decide (x2 < (↑(List.length x0) : Int))) (cond (ok (L52_16_0 FU x2 x0 x1 x2 (List.getD x0 (Int.toNat x2) []) (↑(List.length (List.getD x0 (Int.toNat x2) [])) : Int) (0 : Int) x3 x4 x5 x6 x7)) (cN { sl := [(0, .v (.sc (.yl 0))), (2, .v (.sc (.ptr 6 0))), (9, .v (.sc (.d 26 (.list 22 (.list 3 (.int .i64))) (x0)))), (10, .v (.sc (.int .i64 (x1)))), (11, .v (.sc (.int .i64 (IntKind.wrap IntKind.i64 (x2 + (1 : Int))))))], lo := [], h := [.loop 0 none 27 41 106 [(7, .v (.sc (.ptr 1 0))), (8, .v (.sc (.ptr 3 0)))], .box 22 [.g 2], .row 3 (.int .i64) (Prod.fst (val (L52_16_0 FU x2 x0 x1 x2 (List.getD x0 (Int.toNat x2) []) (↑(List.length (List.getD x0 (Int.toNat x2) [])) : Int) (0 : Int) x3 x4 x5 x6 x7)) : List Int), .box 22 [.g 4], .row 3 (.int .i64) (Prod.snd (val (L52_16_0 FU x2 x0 x1 x2 (List.getD x0 (Int.toNat x2) []) (↑(List.length (List.getD x0 (Int.toNat x2) [])) : Int) (0 : Int) x3 x4 x5 x6 x7)) : List Int), .box 25 [.d 3 (.int .i64) (x5), .d 26 (.list 22 (.list 3 (.int .i64))) (x6)], .box 26 [.d 22 (.list 3 (.int .i64)) (x7)]], n0 := 7, w := false }) none) none) none) (cX (.exit 0) { sl := [], lo := [], h := [.loop 0 none 27 41 106 [(7, .v (.sc (.ptr 1 0))), (8, .v (.sc (.ptr 3 0)))], .box 22 [.g 2], .row 3 (.int .i64) (x3), .box 22 [.g 4], .row 3 (.int .i64) (x4), .box 25 [.d 3 (.int .i64) (x5), .d 26 (.list 22 (.list 3 (.int .i64))) (x6)], .box 26 [.d 22 (.list 3 (.int .i64)) (x7)]], n0 := 7, w := false })) := by kernel_rfl
theorem lL52_0_0 (k m : Nat) : ∀ (n : Nat) (x0 : (List (List (List Int)))) (x1 : Int) (x2 : Int) (x3 : (List Int)) (x4 : (List Int)) (x5 : (List Int)) (x6 : (List (List (List Int)))) (x7 : (List (List Int))) (r : ((List Int) × (List Int))), L52_0_0 n x0 x1 x2 x3 x4 x5 x6 x7 = some r → loopE Try.prog (mkTn base o44 t44 52) (TM.evF Try.prog (mkTn base o44 t44) dOk (k + 40)) dOk (k + 40) (codeAt Try.prog (tn0 52) 52 0) 0 0 (n + m) { sl := [(0, .v (.sc (.yl 0))), (2, .v (.sc (.ptr 6 0))), (9, .v (.sc (.d 26 (.list 22 (.list 3 (.int .i64))) (x0)))), (10, .v (.sc (.int .i64 (x1)))), (11, .v (.sc (.int .i64 (x2))))], lo := [], h := [.loop 0 none 27 41 106 [(7, .v (.sc (.ptr 1 0))), (8, .v (.sc (.ptr 3 0)))], .box 22 [.g 2], .row 3 (.int .i64) (x3), .box 22 [.g 4], .row 3 (.int .i64) (x4), .box 25 [.d 3 (.int .i64) (x5), .d 26 (.list 22 (.list 3 (.int .i64))) (x6)], .box 26 [.d 22 (.list 3 (.int .i64)) (x7)]], n0 := 7, w := false } = some (xL52_0_0 x0 x1 x2 x3 x4 x5 x6 x7 r) := by
  intro n
  induction n with
  | zero => intro _ _ _ _ _ _ _ _ r h; cases h
  | succ n ih =>
    intro x0 x1 x2 x3 x4 x5 x6 x7 r
    rw [show n + 1 + m = n + m + 1 by omega, loop_step, bL52_0_0, qL52_0_0]
    refine cond_go ?_ ?_
    · refine cond_go ?_ ?_
      · refine cond_go ?_ ?_
        · refine cond_go ?_ ?_
          · exact ih _ _ _ _ _ _ _ _ r
          · intro h; cases h
        · intro h; cases h
      · intro h; cases h
    · intro h; cases h; rfl
noncomputable def sL52_0_0 : TellS := fun S => dCS 7 S fun y1 y2 y3 => dSs 0 y1 fun y5 l4 => dYl 0 y5 <| dSs 2 l4 fun y7 l6 => dPtr 6 0 y7 <| dSs 9 l6 fun y9 l8 => dD 26 (.list 22 (.list 3 (.int .i64))) y9 fun x0 => dSI 10 .i64 l8 fun x1 l10 => dSI 11 .i64 l10 fun x2 l11 => dE l11 <| dE y2 <| dC y3 fun y13 l12 => dLoop 0 none 27 41 106 y13 fun y14 => dSs 7 y14 fun y16 l15 => dPtr 1 0 y16 <| dSs 8 l15 fun y18 l17 => dPtr 3 0 y18 <| dE l17 <| dHB 22 l12 fun y20 l19 => dC y20 fun y21 l22 => dG 2 y21 <| dE l22 <| dHR 3 (.int .i64) l19 fun x3 l23 => dHB 22 l23 fun y25 l24 => dC y25 fun y26 l27 => dG 4 y26 <| dE l27 <| dHR 3 (.int .i64) l24 fun x4 l28 => dHB 25 l28 fun y30 l29 => dC y30 fun y31 l32 => dD 3 (.int .i64) y31 fun x5 => dC l32 fun y33 l34 => dD 26 (.list 22 (.list 3 (.int .i64))) y33 fun x6 => dE l34 <| dHB 26 l29 fun y36 l35 => dC y36 fun y37 l38 => dD 22 (.list 3 (.int .i64)) y37 fun x7 => dE l38 <| dE l35 <|  some [(ok (L52_0_0 FU x0 x1 x2 x3 x4 x5 x6 x7), (.exit 0), { sl := [], lo := [], h := [.loop 0 none 27 41 106 [(7, .v (.sc (.ptr 1 0))), (8, .v (.sc (.ptr 3 0)))], .box 22 [.g 2], .row 3 (.int .i64) ((val (L52_0_0 FU x0 x1 x2 x3 x4 x5 x6 x7)).1 : List Int), .box 22 [.g 4], .row 3 (.int .i64) ((val (L52_0_0 FU x0 x1 x2 x3 x4 x5 x6 x7)).2 : List Int), .box 25 [.d 3 (.int .i64) (x5), .d 26 (.list 22 (.list 3 (.int .i64))) (x6)], .box 26 [.d 22 (.list 3 (.int .i64)) (x7)]], n0 := 7, w := false })]
theorem wL52_0_0 : NewTell Try.prog dOk base o44 t44 ((52, 0), sL52_0_0) := by
  refine ⟨.loop (codeAt Try.prog (tn0 52) 52 0), 0, by kernel_rfl, ?_⟩
  intro S alts e S' h10 h2
  have h1 : sL52_0_0 S = some alts := h10
  clear h10
  unfold sL52_0_0 at h1
  replace h1 := dCS_some h1; obtain ⟨y1, y2, y3, rfl, h1⟩ := h1
  replace h1 := dSs_some h1; obtain ⟨y5, l4, rfl, h1⟩ := h1
  replace h1 := dYl_some h1; obtain ⟨rfl, h1⟩ := h1
  replace h1 := dSs_some h1; obtain ⟨y7, l6, rfl, h1⟩ := h1
  replace h1 := dPtr_some h1; obtain ⟨rfl, h1⟩ := h1
  replace h1 := dSs_some h1; obtain ⟨y9, l8, rfl, h1⟩ := h1
  replace h1 := dD_some h1; obtain ⟨x0, rfl, h1⟩ := h1
  replace h1 := dSI_some h1; obtain ⟨x1, l10, rfl, h1⟩ := h1
  replace h1 := dSI_some h1; obtain ⟨x2, l11, rfl, h1⟩ := h1
  replace h1 := dE_some h1; obtain ⟨rfl, h1⟩ := h1
  replace h1 := dE_some h1; obtain ⟨rfl, h1⟩ := h1
  replace h1 := dC_some h1; obtain ⟨y13, l12, rfl, h1⟩ := h1
  replace h1 := dLoop_some h1; obtain ⟨y14, rfl, h1⟩ := h1
  replace h1 := dSs_some h1; obtain ⟨y16, l15, rfl, h1⟩ := h1
  replace h1 := dPtr_some h1; obtain ⟨rfl, h1⟩ := h1
  replace h1 := dSs_some h1; obtain ⟨y18, l17, rfl, h1⟩ := h1
  replace h1 := dPtr_some h1; obtain ⟨rfl, h1⟩ := h1
  replace h1 := dE_some h1; obtain ⟨rfl, h1⟩ := h1
  replace h1 := dHB_some h1; obtain ⟨y20, l19, rfl, h1⟩ := h1
  replace h1 := dC_some h1; obtain ⟨y21, l22, rfl, h1⟩ := h1
  replace h1 := dG_some h1; obtain ⟨rfl, h1⟩ := h1
  replace h1 := dE_some h1; obtain ⟨rfl, h1⟩ := h1
  replace h1 := dHR_some h1; obtain ⟨x3, l23, rfl, h1⟩ := h1
  replace h1 := dHB_some h1; obtain ⟨y25, l24, rfl, h1⟩ := h1
  replace h1 := dC_some h1; obtain ⟨y26, l27, rfl, h1⟩ := h1
  replace h1 := dG_some h1; obtain ⟨rfl, h1⟩ := h1
  replace h1 := dE_some h1; obtain ⟨rfl, h1⟩ := h1
  replace h1 := dHR_some h1; obtain ⟨x4, l28, rfl, h1⟩ := h1
  replace h1 := dHB_some h1; obtain ⟨y30, l29, rfl, h1⟩ := h1
  replace h1 := dC_some h1; obtain ⟨y31, l32, rfl, h1⟩ := h1
  replace h1 := dD_some h1; obtain ⟨x5, rfl, h1⟩ := h1
  replace h1 := dC_some h1; obtain ⟨y33, l34, rfl, h1⟩ := h1
  replace h1 := dD_some h1; obtain ⟨x6, rfl, h1⟩ := h1
  replace h1 := dE_some h1; obtain ⟨rfl, h1⟩ := h1
  replace h1 := dHB_some h1; obtain ⟨y36, l35, rfl, h1⟩ := h1
  replace h1 := dC_some h1; obtain ⟨y37, l38, rfl, h1⟩ := h1
  replace h1 := dD_some h1; obtain ⟨x7, rfl, h1⟩ := h1
  replace h1 := dE_some h1; obtain ⟨rfl, h1⟩ := h1
  replace h1 := dE_some h1; obtain ⟨rfl, h1⟩ := h1
  cases h1
  obtain ⟨hc0, rfl, rfl⟩ := pick_one h2
  exact ⟨FU + 40, (evPiece_loop rfl).trans (lL52_0_0 FU 40 FU _ _ _ _ _ _ _ _ _ (ok_val hc0))⟩
noncomputable def o45 : OrcT := o44
noncomputable def t45 : TellT := ((52, 0), sL52_0_0) :: t44
noncomputable abbrev tn45 : FuncId → TAn := mkTn base o45 t45
theorem ok45 : TnOk Try.prog tn45 (mkA base) dOk := by
  have h0 : TnOk Try.prog (mkTn base o44 t44) (mkA base) dOk := ok44
  have h1 := tn_tell h0 h0 (p := ((52, 0), sL52_0_0)) wL52_0_0
  exact h1
noncomputable def v52 (x0 : (List Int)) (x1 : (List Int)) (x2 : (List Int)) (x3 : (List (List (List Int)))) (x4 : (List (List Int))) : Option ((List Int) × (List Int)) := (cond (ok (L52_0_0 FU x3 (↑(List.length x3) : Int) (0 : Int) x0 x1 x2 x3 x4)) (some (Prod.fst (val (L52_0_0 FU x3 (↑(List.length x3) : Int) (0 : Int) x0 x1 x2 x3 x4)), Prod.snd (val (L52_0_0 FU x3 (↑(List.length x3) : Int) (0 : Int) x0 x1 x2 x3 x4)))) none)
theorem ev52 (x0 : (List Int)) (x1 : (List Int)) (x2 : (List Int)) (x3 : (List (List (List Int)))) (x4 : (List (List Int))) : fnBody Try.prog (mkTn base o45 t45 52) (TM.evF Try.prog (mkTn base o45 t45) dOk 40) dOk 40 52 [.sc (.yl 0), .sc (.ptr 5 0), .sc (.ptr 6 0)] [.loop 0 none 27 41 106 [(7, .v (.sc (.ptr 1 0))), (8, .v (.sc (.ptr 3 0)))], .box 22 [.g 2], .row 3 (.int .i64) (x0), .box 22 [.g 4], .row 3 (.int .i64) (x1), .box 25 [.d 3 (.int .i64) (x2), .d 26 (.list 22 (.list 3 (.int .i64))) (x3)], .box 26 [.d 22 (.list 3 (.int .i64)) (x4)]] = (v52 x0 x1 x2 x3 x4).bind fun r => some ([], [.loop 0 none 27 41 106 [(7, .v (.sc (.ptr 1 0))), (8, .v (.sc (.ptr 3 0)))], .box 22 [.g 2], .row 3 (.int .i64) (r.1 : List Int), .box 22 [.g 4], .row 3 (.int .i64) (r.2 : List Int), .box 25 [.d 3 (.int .i64) (x2), .d 26 (.list 22 (.list 3 (.int .i64))) (x3)], .box 26 [.d 22 (.list 3 (.int .i64)) (x4)]]) := by
  refine Eq.trans (b := (cond (ok (L52_0_0 FU x3 (↑(List.length x3) : Int) (0 : Int) x0 x1 x2 x3 x4)) (some ([], [.loop 0 none 27 41 106 [(7, .v (.sc (.ptr 1 0))), (8, .v (.sc (.ptr 3 0)))], .box 22 [.g 2], .row 3 (.int .i64) (Prod.fst (val (L52_0_0 FU x3 (↑(List.length x3) : Int) (0 : Int) x0 x1 x2 x3 x4)) : List Int), .box 22 [.g 4], .row 3 (.int .i64) (Prod.snd (val (L52_0_0 FU x3 (↑(List.length x3) : Int) (0 : Int) x0 x1 x2 x3 x4)) : List Int), .box 25 [.d 3 (.int .i64) (x2), .d 26 (.list 22 (.list 3 (.int .i64))) (x3)], .box 26 [.d 22 (.list 3 (.int .i64)) (x4)]])) none)) (by kernel_rfl) ?_
  unfold v52
  refine cond_bd ?_ ?_
  · rfl
  · rfl
noncomputable def sv52 : OrcS := fun al H => dC al fun y1 l2 => dS y1 fun y3 => dYl 0 y3 <| dC l2 fun y4 l5 => dS y4 fun y6 => dPtr 5 0 y6 <| dC l5 fun y7 l8 => dS y7 fun y9 => dPtr 6 0 y9 <| dE l8 <| dC H fun y11 l10 => dLoop 0 none 27 41 106 y11 fun y12 => dSs 7 y12 fun y14 l13 => dPtr 1 0 y14 <| dSs 8 l13 fun y16 l15 => dPtr 3 0 y16 <| dE l15 <| dHB 22 l10 fun y18 l17 => dC y18 fun y19 l20 => dG 2 y19 <| dE l20 <| dHR 3 (.int .i64) l17 fun x0 l21 => dHB 22 l21 fun y23 l22 => dC y23 fun y24 l25 => dG 4 y24 <| dE l25 <| dHR 3 (.int .i64) l22 fun x1 l26 => dHB 25 l26 fun y28 l27 => dC y28 fun y29 l30 => dD 3 (.int .i64) y29 fun x2 => dC l30 fun y31 l32 => dD 26 (.list 22 (.list 3 (.int .i64))) y31 fun x3 => dE l32 <| dHB 26 l27 fun y34 l33 => dC y34 fun y35 l36 => dD 22 (.list 3 (.int .i64)) y35 fun x4 => dE l36 <| dE l33 <|  some [(ok (v52 x0 x1 x2 x3 x4), [], [.loop 0 none 27 41 106 [(7, .v (.sc (.ptr 1 0))), (8, .v (.sc (.ptr 3 0)))], .box 22 [.g 2], .row 3 (.int .i64) ((val (v52 x0 x1 x2 x3 x4)).1 : List Int), .box 22 [.g 4], .row 3 (.int .i64) ((val (v52 x0 x1 x2 x3 x4)).2 : List Int), .box 25 [.d 3 (.int .i64) (x2), .d 26 (.list 22 (.list 3 (.int .i64))) (x3)], .box 26 [.d 22 (.list 3 (.int .i64)) (x4)]])]
theorem wv52 : NewOrc Try.prog dOk base o45 t45 (52, sv52) := by
  intro al H q hq0 rs H2 h2
  have hq : sv52 al H = some q := hq0
  clear hq0
  unfold sv52 at hq
  replace hq := dC_some hq; obtain ⟨y1, l2, rfl, hq⟩ := hq
  replace hq := dS_some hq; obtain ⟨y3, rfl, hq⟩ := hq
  replace hq := dYl_some hq; obtain ⟨rfl, hq⟩ := hq
  replace hq := dC_some hq; obtain ⟨y4, l5, rfl, hq⟩ := hq
  replace hq := dS_some hq; obtain ⟨y6, rfl, hq⟩ := hq
  replace hq := dPtr_some hq; obtain ⟨rfl, hq⟩ := hq
  replace hq := dC_some hq; obtain ⟨y7, l8, rfl, hq⟩ := hq
  replace hq := dS_some hq; obtain ⟨y9, rfl, hq⟩ := hq
  replace hq := dPtr_some hq; obtain ⟨rfl, hq⟩ := hq
  replace hq := dE_some hq; obtain ⟨rfl, hq⟩ := hq
  replace hq := dC_some hq; obtain ⟨y11, l10, rfl, hq⟩ := hq
  replace hq := dLoop_some hq; obtain ⟨y12, rfl, hq⟩ := hq
  replace hq := dSs_some hq; obtain ⟨y14, l13, rfl, hq⟩ := hq
  replace hq := dPtr_some hq; obtain ⟨rfl, hq⟩ := hq
  replace hq := dSs_some hq; obtain ⟨y16, l15, rfl, hq⟩ := hq
  replace hq := dPtr_some hq; obtain ⟨rfl, hq⟩ := hq
  replace hq := dE_some hq; obtain ⟨rfl, hq⟩ := hq
  replace hq := dHB_some hq; obtain ⟨y18, l17, rfl, hq⟩ := hq
  replace hq := dC_some hq; obtain ⟨y19, l20, rfl, hq⟩ := hq
  replace hq := dG_some hq; obtain ⟨rfl, hq⟩ := hq
  replace hq := dE_some hq; obtain ⟨rfl, hq⟩ := hq
  replace hq := dHR_some hq; obtain ⟨x0, l21, rfl, hq⟩ := hq
  replace hq := dHB_some hq; obtain ⟨y23, l22, rfl, hq⟩ := hq
  replace hq := dC_some hq; obtain ⟨y24, l25, rfl, hq⟩ := hq
  replace hq := dG_some hq; obtain ⟨rfl, hq⟩ := hq
  replace hq := dE_some hq; obtain ⟨rfl, hq⟩ := hq
  replace hq := dHR_some hq; obtain ⟨x1, l26, rfl, hq⟩ := hq
  replace hq := dHB_some hq; obtain ⟨y28, l27, rfl, hq⟩ := hq
  replace hq := dC_some hq; obtain ⟨y29, l30, rfl, hq⟩ := hq
  replace hq := dD_some hq; obtain ⟨x2, rfl, hq⟩ := hq
  replace hq := dC_some hq; obtain ⟨y31, l32, rfl, hq⟩ := hq
  replace hq := dD_some hq; obtain ⟨x3, rfl, hq⟩ := hq
  replace hq := dE_some hq; obtain ⟨rfl, hq⟩ := hq
  replace hq := dHB_some hq; obtain ⟨y34, l33, rfl, hq⟩ := hq
  replace hq := dC_some hq; obtain ⟨y35, l36, rfl, hq⟩ := hq
  replace hq := dD_some hq; obtain ⟨x4, rfl, hq⟩ := hq
  replace hq := dE_some hq; obtain ⟨rfl, hq⟩ := hq
  replace hq := dE_some hq; obtain ⟨rfl, hq⟩ := hq
  cases hq
  obtain ⟨hc0, rfl, rfl⟩ := pickR_one h2
  exact ⟨41, (fn_eq (by kernel_rfl)).trans ((ev52 _ _ _ _ _).trans (bind_of (ok_val hc0)))⟩
noncomputable def o46 : OrcT := (52, sv52) :: o45
noncomputable def t46 : TellT := t45
noncomputable abbrev tn46 : FuncId → TAn := mkTn base o46 t46
theorem ok46 : TnOk Try.prog tn46 (mkA base) dOk := by
  have h0 : TnOk Try.prog (mkTn base o45 t45) (mkA base) dOk := ok45
  have h1 := tn_orc h0 h0 (p := (52, sv52)) wv52
  exact h1
noncomputable def L27_32_0 : Nat → (List (List Int)) → Int → Int → (List Int) → (List (List (List Int))) → (List Int) → Bool → (List Int) → (List Int) → Option (Bool ⊕ Unit)
  | 0, _, _, _, _, _, _, _, _, _ => none
  | n + 1, x0, x1, x2, x3, x4, x5, x6, x7, x8 => (cond (decide (x2 < x1)) (cond (decide ((0 : Int) ≤ x2)) (cond (decide (x2 < (↑(List.length x7) : Int))) (cond (decide (Int.toNat x2 < List.length x7)) (cond (decide (x2 < (↑(List.length x3) : Int))) (cond (decide (List.getD x7 (Int.toNat x2) (0 : Int) > IntKind.wrap IntKind.i64 ((1000000 : Int) * List.getD x3 (Int.toNat x2) (0 : Int)))) (some (.inl (false))) (L27_32_0 n (x0) (x1) (IntKind.wrap IntKind.i64 (x2 + (1 : Int))) (x3) (x4) (x5) (x6) (x7) (x8))) none) none) none) none) (some (.inr ())))
theorem qL27_32_0 : type_of% @L27_32_0.eq_2 := @L27_32_0.eq_2
noncomputable def xL27_32_0 (x0 : (List (List Int))) (x1 : Int) (x2 : Int) (x3 : (List Int)) (x4 : (List (List (List Int)))) (x5 : (List Int)) (x6 : Bool) (x7 : (List Int)) (x8 : (List Int)) : (Bool ⊕ Unit) → Ex × CS := fun r => match r with | .inl a0 => (.ret, { sl := [(6, .v (.sc (.ptr 0 0)))], lo := [], h := [.box 4 [.bool (a0)]], n0 := 0, w := true }) | .inr b0 => ((.exit 4), { sl := [(1, .v (.sc (.d 22 (.list 3 (.int .i64)) (x0)))), (3, .l 3 0), (5, .v (.sc (.ptr 3 0))), (6, .v (.sc (.ptr 2 0))), (8, .v (.sc (.ptr 0 0)))], lo := [(3, [.d 3 (.int .i64) (x3), .d 26 (.list 22 (.list 3 (.int .i64))) (x4)])], h := [.box 22 [.g 1], .row 3 (.int .i64) (x5), .box 4 [.bool (x6)], .box 22 [.d 3 (.int .i64) (x8)]], n0 := 0, w := false })
theorem bL27_32_0 (k : Nat) (cN : CS → Option (Ex × CS)) (cX : Ex → CS → Option (Ex × CS)) (x0 : (List (List Int))) (x1 : Int) (x2 : Int) (x3 : (List Int)) (x4 : (List (List (List Int)))) (x5 : (List Int)) (x6 : Bool) (x7 : (List Int)) (x8 : (List Int)) : loopBody Try.prog (mkTn base o46 t46 27) (TM.evF Try.prog (mkTn base o46 t46) dOk (k + 40)) dOk (k + 40) (codeAt Try.prog (tn0 27) 27 32) 4 32 { sl := [(1, .v (.sc (.d 22 (.list 3 (.int .i64)) (x0)))), (3, .l 3 0), (5, .v (.sc (.ptr 4 0))), (6, .v (.sc (.ptr 2 0))), (8, .v (.sc (.ptr 0 0))), (57, .v (.sc (.g 3))), (58, .v (.sc (.int .i64 (x1)))), (59, .v (.sc (.int .i64 (x2))))], lo := [(3, [.d 3 (.int .i64) (x3), .d 26 (.list 22 (.list 3 (.int .i64))) (x4)])], h := [.box 22 [.g 1], .row 3 (.int .i64) (x5), .box 4 [.bool (x6)], .row 3 (.int .i64) (x7), .box 22 [.d 3 (.int .i64) (x8)]], n0 := 0, w := false } cN cX = (cond (decide (x2 < x1)) (cond (decide ((0 : Int) ≤ x2)) (cond (decide (x2 < (↑(List.length x7) : Int))) (cond (decide (Int.toNat x2 < List.length x7)) (cond (decide ((0 : Int) ≤ x2)) (cond (decide (x2 < (↑(List.length x3) : Int))) (cond (decide (List.getD x7 (Int.toNat x2) (0 : Int) > IntKind.wrap IntKind.i64 ((1000000 : Int) * List.getD x3 (Int.toNat x2) (0 : Int)))) (cX .ret { sl := [(6, .v (.sc (.ptr 0 0)))], lo := [], h := [.box 4 [.bool (false)]], n0 := 0, w := true }) (cN { sl := [(1, .v (.sc (.d 22 (.list 3 (.int .i64)) (x0)))), (3, .l 3 0), (5, .v (.sc (.ptr 4 0))), (6, .v (.sc (.ptr 2 0))), (8, .v (.sc (.ptr 0 0))), (57, .v (.sc (.g 3))), (58, .v (.sc (.int .i64 (x1)))), (59, .v (.sc (.int .i64 (IntKind.wrap IntKind.i64 (x2 + (1 : Int))))))], lo := [(3, [.d 3 (.int .i64) (x3), .d 26 (.list 22 (.list 3 (.int .i64))) (x4)])], h := [.box 22 [.g 1], .row 3 (.int .i64) (x5), .box 4 [.bool (x6)], .row 3 (.int .i64) (x7), .box 22 [.d 3 (.int .i64) (x8)]], n0 := 0, w := false })) none) none) none) none) none) (cX (.exit 4) { sl := [(1, .v (.sc (.d 22 (.list 3 (.int .i64)) (x0)))), (3, .l 3 0), (5, .v (.sc (.ptr 3 0))), (6, .v (.sc (.ptr 2 0))), (8, .v (.sc (.ptr 0 0)))], lo := [(3, [.d 3 (.int .i64) (x3), .d 26 (.list 22 (.list 3 (.int .i64))) (x4)])], h := [.box 22 [.g 1], .row 3 (.int .i64) (x5), .box 4 [.bool (x6)], .box 22 [.d 3 (.int .i64) (x8)]], n0 := 0, w := false })) := by kernel_rfl
theorem lL27_32_0 (k m : Nat) : ∀ (n : Nat) (x0 : (List (List Int))) (x1 : Int) (x2 : Int) (x3 : (List Int)) (x4 : (List (List (List Int)))) (x5 : (List Int)) (x6 : Bool) (x7 : (List Int)) (x8 : (List Int)) (r : (Bool ⊕ Unit)), L27_32_0 n x0 x1 x2 x3 x4 x5 x6 x7 x8 = some r → loopE Try.prog (mkTn base o46 t46 27) (TM.evF Try.prog (mkTn base o46 t46) dOk (k + 40)) dOk (k + 40) (codeAt Try.prog (tn0 27) 27 32) 4 32 (n + m) { sl := [(1, .v (.sc (.d 22 (.list 3 (.int .i64)) (x0)))), (3, .l 3 0), (5, .v (.sc (.ptr 4 0))), (6, .v (.sc (.ptr 2 0))), (8, .v (.sc (.ptr 0 0))), (57, .v (.sc (.g 3))), (58, .v (.sc (.int .i64 (x1)))), (59, .v (.sc (.int .i64 (x2))))], lo := [(3, [.d 3 (.int .i64) (x3), .d 26 (.list 22 (.list 3 (.int .i64))) (x4)])], h := [.box 22 [.g 1], .row 3 (.int .i64) (x5), .box 4 [.bool (x6)], .row 3 (.int .i64) (x7), .box 22 [.d 3 (.int .i64) (x8)]], n0 := 0, w := false } = some (xL27_32_0 x0 x1 x2 x3 x4 x5 x6 x7 x8 r) := by
  intro n
  induction n with
  | zero => intro _ _ _ _ _ _ _ _ _ r h; cases h
  | succ n ih =>
    intro x0 x1 x2 x3 x4 x5 x6 x7 x8 r
    rw [show n + 1 + m = n + m + 1 by omega, loop_step, bL27_32_0, qL27_32_0]
    cases (decide (x2 < x1)) with
    | true =>
      cases (decide ((0 : Int) ≤ x2)) with
      | true =>
        cases (decide (x2 < (↑(List.length x7) : Int))) with
        | true =>
          cases (decide (Int.toNat x2 < List.length x7)) with
          | true =>
            cases (decide (x2 < (↑(List.length x3) : Int))) with
            | true =>
              cases (decide (List.getD x7 (Int.toNat x2) (0 : Int) > IntKind.wrap IntKind.i64 ((1000000 : Int) * List.getD x3 (Int.toNat x2) (0 : Int)))) with
              | true =>
                intro h; cases h; rfl
              | false =>
                exact ih _ _ _ _ _ _ _ _ _ r
            | false =>
              intro h; cases h
          | false =>
            intro h; cases h
        | false =>
          intro h; cases h
      | false =>
        intro h; cases h
    | false =>
      intro h; cases h; rfl
noncomputable def sL27_32_0 : TellS := fun S => dCS 0 S fun y1 y2 y3 => dSs 1 y1 fun y5 l4 => dD 22 (.list 3 (.int .i64)) y5 fun x0 => dSt 3 l4 fun y7 l6 => dL 3 0 y7 <| dSs 5 l6 fun y9 l8 => dPtr 4 0 y9 <| dSs 6 l8 fun y11 l10 => dPtr 2 0 y11 <| dSs 8 l10 fun y13 l12 => dPtr 0 0 y13 <| dSs 57 l12 fun y15 l14 => dG 3 y15 <| dSI 58 .i64 l14 fun x1 l16 => dSI 59 .i64 l16 fun x2 l17 => dE l17 <| dLo 3 y2 fun y18 l19 => dC y18 fun y20 l21 => dD 3 (.int .i64) y20 fun x3 => dC l21 fun y22 l23 => dD 26 (.list 22 (.list 3 (.int .i64))) y22 fun x4 => dE l23 <| dE l19 <| dHB 22 y3 fun y25 l24 => dC y25 fun y26 l27 => dG 1 y26 <| dE l27 <| dHR 3 (.int .i64) l24 fun x5 l28 => dHB 4 l28 fun y30 l29 => dC y30 fun y31 l32 => dBool y31 fun x6 => dE l32 <| dHR 3 (.int .i64) l29 fun x7 l33 => dHB 22 l33 fun y35 l34 => dC y35 fun y36 l37 => dD 3 (.int .i64) y36 fun x8 => dE l37 <| dE l34 <|  some [(isL (L27_32_0 FU x0 x1 x2 x3 x4 x5 x6 x7 x8), .ret, { sl := [(6, .v (.sc (.ptr 0 0)))], lo := [], h := [.box 4 [.bool ((getL (L27_32_0 FU x0 x1 x2 x3 x4 x5 x6 x7 x8)))]], n0 := 0, w := true }), (ok (getR (L27_32_0 FU x0 x1 x2 x3 x4 x5 x6 x7 x8)), (.exit 4), { sl := [(1, .v (.sc (.d 22 (.list 3 (.int .i64)) (x0)))), (3, .l 3 0), (5, .v (.sc (.ptr 3 0))), (6, .v (.sc (.ptr 2 0))), (8, .v (.sc (.ptr 0 0)))], lo := [(3, [.d 3 (.int .i64) (x3), .d 26 (.list 22 (.list 3 (.int .i64))) (x4)])], h := [.box 22 [.g 1], .row 3 (.int .i64) (x5), .box 4 [.bool (x6)], .box 22 [.d 3 (.int .i64) (x8)]], n0 := 0, w := false })]
theorem wL27_32_0 : NewTell Try.prog dOk base o46 t46 ((27, 32), sL27_32_0) := by
  refine ⟨.loop (codeAt Try.prog (tn0 27) 27 32), 4, by kernel_rfl, ?_⟩
  intro S alts e S' h10 h2
  have h1 : sL27_32_0 S = some alts := h10
  clear h10
  unfold sL27_32_0 at h1
  replace h1 := dCS_some h1; obtain ⟨y1, y2, y3, rfl, h1⟩ := h1
  replace h1 := dSs_some h1; obtain ⟨y5, l4, rfl, h1⟩ := h1
  replace h1 := dD_some h1; obtain ⟨x0, rfl, h1⟩ := h1
  replace h1 := dSt_some h1; obtain ⟨y7, l6, rfl, h1⟩ := h1
  replace h1 := dL_some h1; obtain ⟨rfl, h1⟩ := h1
  replace h1 := dSs_some h1; obtain ⟨y9, l8, rfl, h1⟩ := h1
  replace h1 := dPtr_some h1; obtain ⟨rfl, h1⟩ := h1
  replace h1 := dSs_some h1; obtain ⟨y11, l10, rfl, h1⟩ := h1
  replace h1 := dPtr_some h1; obtain ⟨rfl, h1⟩ := h1
  replace h1 := dSs_some h1; obtain ⟨y13, l12, rfl, h1⟩ := h1
  replace h1 := dPtr_some h1; obtain ⟨rfl, h1⟩ := h1
  replace h1 := dSs_some h1; obtain ⟨y15, l14, rfl, h1⟩ := h1
  replace h1 := dG_some h1; obtain ⟨rfl, h1⟩ := h1
  replace h1 := dSI_some h1; obtain ⟨x1, l16, rfl, h1⟩ := h1
  replace h1 := dSI_some h1; obtain ⟨x2, l17, rfl, h1⟩ := h1
  replace h1 := dE_some h1; obtain ⟨rfl, h1⟩ := h1
  replace h1 := dLo_some h1; obtain ⟨y18, l19, rfl, h1⟩ := h1
  replace h1 := dC_some h1; obtain ⟨y20, l21, rfl, h1⟩ := h1
  replace h1 := dD_some h1; obtain ⟨x3, rfl, h1⟩ := h1
  replace h1 := dC_some h1; obtain ⟨y22, l23, rfl, h1⟩ := h1
  replace h1 := dD_some h1; obtain ⟨x4, rfl, h1⟩ := h1
  replace h1 := dE_some h1; obtain ⟨rfl, h1⟩ := h1
  replace h1 := dE_some h1; obtain ⟨rfl, h1⟩ := h1
  replace h1 := dHB_some h1; obtain ⟨y25, l24, rfl, h1⟩ := h1
  replace h1 := dC_some h1; obtain ⟨y26, l27, rfl, h1⟩ := h1
  replace h1 := dG_some h1; obtain ⟨rfl, h1⟩ := h1
  replace h1 := dE_some h1; obtain ⟨rfl, h1⟩ := h1
  replace h1 := dHR_some h1; obtain ⟨x5, l28, rfl, h1⟩ := h1
  replace h1 := dHB_some h1; obtain ⟨y30, l29, rfl, h1⟩ := h1
  replace h1 := dC_some h1; obtain ⟨y31, l32, rfl, h1⟩ := h1
  replace h1 := dBool_some h1; obtain ⟨x6, rfl, h1⟩ := h1
  replace h1 := dE_some h1; obtain ⟨rfl, h1⟩ := h1
  replace h1 := dHR_some h1; obtain ⟨x7, l33, rfl, h1⟩ := h1
  replace h1 := dHB_some h1; obtain ⟨y35, l34, rfl, h1⟩ := h1
  replace h1 := dC_some h1; obtain ⟨y36, l37, rfl, h1⟩ := h1
  replace h1 := dD_some h1; obtain ⟨x8, rfl, h1⟩ := h1
  replace h1 := dE_some h1; obtain ⟨rfl, h1⟩ := h1
  replace h1 := dE_some h1; obtain ⟨rfl, h1⟩ := h1
  cases h1
  rcases pick_cons h2 with ⟨hc0, rfl, rfl⟩ | h2
  · exact ⟨FU + 40, (evPiece_loop rfl).trans (lL27_32_0 FU 40 FU _ _ _ _ _ _ _ _ _ _ (isL_val hc0))⟩
  obtain ⟨hc1, rfl, rfl⟩ := pick_one h2
  exact ⟨FU + 40, (evPiece_loop rfl).trans (lL27_32_0 FU 40 FU _ _ _ _ _ _ _ _ _ _ (getR_val (ok_val hc1)))⟩
noncomputable def o47 : OrcT := o46
noncomputable def t47 : TellT := ((27, 32), sL27_32_0) :: t46
noncomputable abbrev tn47 : FuncId → TAn := mkTn base o47 t47
theorem ok47 : TnOk Try.prog tn47 (mkA base) dOk := by
  have h0 : TnOk Try.prog (mkTn base o46 t46) (mkA base) dOk := ok46
  have h1 := tn_tell h0 h0 (p := ((27, 32), sL27_32_0)) wL27_32_0
  exact h1
noncomputable def L27_64_0 : Nat → Int → Int → (List Int) → Int → Int → (List Int) → Bool → (List Int) → Option Int
  | 0, _, _, _, _, _, _, _, _ => none
  | n + 1, x0, x1, x2, x3, x4, x5, x6, x7 => (cond (decide (x4 < x3)) (cond (decide ((0 : Int) ≤ x4)) (cond (decide (x4 < (↑(List.length x2) : Int))) (cond (decide ((0 : Int) ≤ List.getD x2 (Int.toNat x4) (0 : Int))) (cond (decide (List.getD x2 (Int.toNat x4) (0 : Int) < (↑(List.length x5) : Int))) (L27_64_0 n (x0) (IntKind.wrap IntKind.i64 (x1 + List.getD x5 (Int.toNat (List.getD x2 (Int.toNat x4) (0 : Int))) (0 : Int))) (x2) (x3) (IntKind.wrap IntKind.i64 (x4 + (1 : Int))) (x5) (x6) (x7)) none) none) none) none) (some (x1)))
theorem qL27_64_0 : type_of% @L27_64_0.eq_2 := @L27_64_0.eq_2
noncomputable def xL27_64_0 (x0 : Int) (x1 : Int) (x2 : (List Int)) (x3 : Int) (x4 : Int) (x5 : (List Int)) (x6 : Bool) (x7 : (List Int)) : Int → Ex × CS := fun r => ((.exit 8), { sl := [(6, .v (.sc (.ptr 2 0))), (8, .v (.sc (.ptr 3 0))), (15, .v (.sc (.int .i64 (x0)))), (17, .v (.sc (.int .i64 (r))))], lo := [], h := [.loop 1 none 27 161 106 [(5, .v (.sc (.ptr 1 0))), (6, .v (.sc (.ptr 2 0))), (8, .v (.sc (.ptr 3 0)))], .box 22 [.d 3 (.int .i64) (x5)], .box 4 [.bool (x6)], .box 22 [.g 4], .row 3 (.int .i64) (x7)], n0 := 5, w := false })
theorem bL27_64_0 (k : Nat) (cN : CS → Option (Ex × CS)) (cX : Ex → CS → Option (Ex × CS)) (x0 : Int) (x1 : Int) (x2 : (List Int)) (x3 : Int) (x4 : Int) (x5 : (List Int)) (x6 : Bool) (x7 : (List Int)) : loopBody Try.prog (mkTn base o47 t47 27) (TM.evF Try.prog (mkTn base o47 t47) dOk (k + 40)) dOk (k + 40) (codeAt Try.prog (tn0 27) 27 64) 8 64 { sl := [(5, .v (.sc (.ptr 1 0))), (6, .v (.sc (.ptr 2 0))), (8, .v (.sc (.ptr 3 0))), (15, .v (.sc (.int .i64 (x0)))), (17, .v (.sc (.int .i64 (x1)))), (79, .v (.sc (.d 3 (.int .i64) (x2)))), (80, .v (.sc (.int .i64 (x3)))), (81, .v (.sc (.int .i64 (x4))))], lo := [], h := [.loop 1 none 27 161 106 [(5, .v (.sc (.ptr 1 0))), (6, .v (.sc (.ptr 2 0))), (8, .v (.sc (.ptr 3 0)))], .box 22 [.d 3 (.int .i64) (x5)], .box 4 [.bool (x6)], .box 22 [.g 4], .row 3 (.int .i64) (x7)], n0 := 5, w := false } cN cX = (cond (decide (x4 < x3)) (cond (decide ((0 : Int) ≤ x4)) (cond (decide (x4 < (↑(List.length x2) : Int))) (cond (decide ((0 : Int) ≤ List.getD x2 (Int.toNat x4) (0 : Int))) (cond (decide (List.getD x2 (Int.toNat x4) (0 : Int) < (↑(List.length x5) : Int))) (cN { sl := [(5, .v (.sc (.ptr 1 0))), (6, .v (.sc (.ptr 2 0))), (8, .v (.sc (.ptr 3 0))), (15, .v (.sc (.int .i64 (x0)))), (17, .v (.sc (.int .i64 (IntKind.wrap IntKind.i64 (x1 + List.getD x5 (Int.toNat (List.getD x2 (Int.toNat x4) (0 : Int))) (0 : Int)))))), (79, .v (.sc (.d 3 (.int .i64) (x2)))), (80, .v (.sc (.int .i64 (x3)))), (81, .v (.sc (.int .i64 (IntKind.wrap IntKind.i64 (x4 + (1 : Int))))))], lo := [], h := [.loop 1 none 27 161 106 [(5, .v (.sc (.ptr 1 0))), (6, .v (.sc (.ptr 2 0))), (8, .v (.sc (.ptr 3 0)))], .box 22 [.d 3 (.int .i64) (x5)], .box 4 [.bool (x6)], .box 22 [.g 4], .row 3 (.int .i64) (x7)], n0 := 5, w := false }) none) none) none) none) (cX (.exit 8) { sl := [(6, .v (.sc (.ptr 2 0))), (8, .v (.sc (.ptr 3 0))), (15, .v (.sc (.int .i64 (x0)))), (17, .v (.sc (.int .i64 (x1))))], lo := [], h := [.loop 1 none 27 161 106 [(5, .v (.sc (.ptr 1 0))), (6, .v (.sc (.ptr 2 0))), (8, .v (.sc (.ptr 3 0)))], .box 22 [.d 3 (.int .i64) (x5)], .box 4 [.bool (x6)], .box 22 [.g 4], .row 3 (.int .i64) (x7)], n0 := 5, w := false })) := by kernel_rfl
theorem lL27_64_0 (k m : Nat) : ∀ (n : Nat) (x0 : Int) (x1 : Int) (x2 : (List Int)) (x3 : Int) (x4 : Int) (x5 : (List Int)) (x6 : Bool) (x7 : (List Int)) (r : Int), L27_64_0 n x0 x1 x2 x3 x4 x5 x6 x7 = some r → loopE Try.prog (mkTn base o47 t47 27) (TM.evF Try.prog (mkTn base o47 t47) dOk (k + 40)) dOk (k + 40) (codeAt Try.prog (tn0 27) 27 64) 8 64 (n + m) { sl := [(5, .v (.sc (.ptr 1 0))), (6, .v (.sc (.ptr 2 0))), (8, .v (.sc (.ptr 3 0))), (15, .v (.sc (.int .i64 (x0)))), (17, .v (.sc (.int .i64 (x1)))), (79, .v (.sc (.d 3 (.int .i64) (x2)))), (80, .v (.sc (.int .i64 (x3)))), (81, .v (.sc (.int .i64 (x4))))], lo := [], h := [.loop 1 none 27 161 106 [(5, .v (.sc (.ptr 1 0))), (6, .v (.sc (.ptr 2 0))), (8, .v (.sc (.ptr 3 0)))], .box 22 [.d 3 (.int .i64) (x5)], .box 4 [.bool (x6)], .box 22 [.g 4], .row 3 (.int .i64) (x7)], n0 := 5, w := false } = some (xL27_64_0 x0 x1 x2 x3 x4 x5 x6 x7 r) := by
  intro n
  induction n with
  | zero => intro _ _ _ _ _ _ _ _ r h; cases h
  | succ n ih =>
    intro x0 x1 x2 x3 x4 x5 x6 x7 r
    rw [show n + 1 + m = n + m + 1 by omega, loop_step, bL27_64_0, qL27_64_0]
    refine cond_go ?_ ?_
    · refine cond_go ?_ ?_
      · refine cond_go ?_ ?_
        · refine cond_go ?_ ?_
          · refine cond_go ?_ ?_
            · exact ih _ _ _ _ _ _ _ _ r
            · intro h; cases h
          · intro h; cases h
        · intro h; cases h
      · intro h; cases h
    · intro h; cases h; rfl
noncomputable def sL27_64_0 : TellS := fun S => dCS 5 S fun y1 y2 y3 => dSs 5 y1 fun y5 l4 => dPtr 1 0 y5 <| dSs 6 l4 fun y7 l6 => dPtr 2 0 y7 <| dSs 8 l6 fun y9 l8 => dPtr 3 0 y9 <| dSI 15 .i64 l8 fun x0 l10 => dSI 17 .i64 l10 fun x1 l11 => dSs 79 l11 fun y13 l12 => dD 3 (.int .i64) y13 fun x2 => dSI 80 .i64 l12 fun x3 l14 => dSI 81 .i64 l14 fun x4 l15 => dE l15 <| dE y2 <| dC y3 fun y17 l16 => dLoop 1 none 27 161 106 y17 fun y18 => dSs 5 y18 fun y20 l19 => dPtr 1 0 y20 <| dSs 6 l19 fun y22 l21 => dPtr 2 0 y22 <| dSs 8 l21 fun y24 l23 => dPtr 3 0 y24 <| dE l23 <| dHB 22 l16 fun y26 l25 => dC y26 fun y27 l28 => dD 3 (.int .i64) y27 fun x5 => dE l28 <| dHB 4 l25 fun y30 l29 => dC y30 fun y31 l32 => dBool y31 fun x6 => dE l32 <| dHB 22 l29 fun y34 l33 => dC y34 fun y35 l36 => dG 4 y35 <| dE l36 <| dHR 3 (.int .i64) l33 fun x7 l37 => dE l37 <|  some [(ok (L27_64_0 FU x0 x1 x2 x3 x4 x5 x6 x7), (.exit 8), { sl := [(6, .v (.sc (.ptr 2 0))), (8, .v (.sc (.ptr 3 0))), (15, .v (.sc (.int .i64 (x0)))), (17, .v (.sc (.int .i64 ((val (L27_64_0 FU x0 x1 x2 x3 x4 x5 x6 x7))))))], lo := [], h := [.loop 1 none 27 161 106 [(5, .v (.sc (.ptr 1 0))), (6, .v (.sc (.ptr 2 0))), (8, .v (.sc (.ptr 3 0)))], .box 22 [.d 3 (.int .i64) (x5)], .box 4 [.bool (x6)], .box 22 [.g 4], .row 3 (.int .i64) (x7)], n0 := 5, w := false })]
theorem wL27_64_0 : NewTell Try.prog dOk base o47 t47 ((27, 64), sL27_64_0) := by
  refine ⟨.loop (codeAt Try.prog (tn0 27) 27 64), 8, by kernel_rfl, ?_⟩
  intro S alts e S' h10 h2
  have h1 : sL27_64_0 S = some alts := h10
  clear h10
  unfold sL27_64_0 at h1
  replace h1 := dCS_some h1; obtain ⟨y1, y2, y3, rfl, h1⟩ := h1
  replace h1 := dSs_some h1; obtain ⟨y5, l4, rfl, h1⟩ := h1
  replace h1 := dPtr_some h1; obtain ⟨rfl, h1⟩ := h1
  replace h1 := dSs_some h1; obtain ⟨y7, l6, rfl, h1⟩ := h1
  replace h1 := dPtr_some h1; obtain ⟨rfl, h1⟩ := h1
  replace h1 := dSs_some h1; obtain ⟨y9, l8, rfl, h1⟩ := h1
  replace h1 := dPtr_some h1; obtain ⟨rfl, h1⟩ := h1
  replace h1 := dSI_some h1; obtain ⟨x0, l10, rfl, h1⟩ := h1
  replace h1 := dSI_some h1; obtain ⟨x1, l11, rfl, h1⟩ := h1
  replace h1 := dSs_some h1; obtain ⟨y13, l12, rfl, h1⟩ := h1
  replace h1 := dD_some h1; obtain ⟨x2, rfl, h1⟩ := h1
  replace h1 := dSI_some h1; obtain ⟨x3, l14, rfl, h1⟩ := h1
  replace h1 := dSI_some h1; obtain ⟨x4, l15, rfl, h1⟩ := h1
  replace h1 := dE_some h1; obtain ⟨rfl, h1⟩ := h1
  replace h1 := dE_some h1; obtain ⟨rfl, h1⟩ := h1
  replace h1 := dC_some h1; obtain ⟨y17, l16, rfl, h1⟩ := h1
  replace h1 := dLoop_some h1; obtain ⟨y18, rfl, h1⟩ := h1
  replace h1 := dSs_some h1; obtain ⟨y20, l19, rfl, h1⟩ := h1
  replace h1 := dPtr_some h1; obtain ⟨rfl, h1⟩ := h1
  replace h1 := dSs_some h1; obtain ⟨y22, l21, rfl, h1⟩ := h1
  replace h1 := dPtr_some h1; obtain ⟨rfl, h1⟩ := h1
  replace h1 := dSs_some h1; obtain ⟨y24, l23, rfl, h1⟩ := h1
  replace h1 := dPtr_some h1; obtain ⟨rfl, h1⟩ := h1
  replace h1 := dE_some h1; obtain ⟨rfl, h1⟩ := h1
  replace h1 := dHB_some h1; obtain ⟨y26, l25, rfl, h1⟩ := h1
  replace h1 := dC_some h1; obtain ⟨y27, l28, rfl, h1⟩ := h1
  replace h1 := dD_some h1; obtain ⟨x5, rfl, h1⟩ := h1
  replace h1 := dE_some h1; obtain ⟨rfl, h1⟩ := h1
  replace h1 := dHB_some h1; obtain ⟨y30, l29, rfl, h1⟩ := h1
  replace h1 := dC_some h1; obtain ⟨y31, l32, rfl, h1⟩ := h1
  replace h1 := dBool_some h1; obtain ⟨x6, rfl, h1⟩ := h1
  replace h1 := dE_some h1; obtain ⟨rfl, h1⟩ := h1
  replace h1 := dHB_some h1; obtain ⟨y34, l33, rfl, h1⟩ := h1
  replace h1 := dC_some h1; obtain ⟨y35, l36, rfl, h1⟩ := h1
  replace h1 := dG_some h1; obtain ⟨rfl, h1⟩ := h1
  replace h1 := dE_some h1; obtain ⟨rfl, h1⟩ := h1
  replace h1 := dHR_some h1; obtain ⟨x7, l37, rfl, h1⟩ := h1
  replace h1 := dE_some h1; obtain ⟨rfl, h1⟩ := h1
  cases h1
  obtain ⟨hc0, rfl, rfl⟩ := pick_one h2
  exact ⟨FU + 40, (evPiece_loop rfl).trans (lL27_64_0 FU 40 FU _ _ _ _ _ _ _ _ _ (ok_val hc0))⟩
noncomputable def o48 : OrcT := o47
noncomputable def t48 : TellT := ((27, 64), sL27_64_0) :: t47
noncomputable abbrev tn48 : FuncId → TAn := mkTn base o48 t48
theorem ok48 : TnOk Try.prog tn48 (mkA base) dOk := by
  have h0 : TnOk Try.prog (mkTn base o47 t47) (mkA base) dOk := ok47
  have h1 := tn_tell h0 h0 (p := ((27, 64), sL27_64_0)) wL27_64_0
  exact h1
noncomputable def vR_1 (x0 : Int) (x1 : (List Int)) (x2 : Int) (x3 : (List Int)) (x4 : Bool) (x5 : (List Int)) : Option (Unit ⊕ Unit) := (cond (ok (L27_64_0 FU x0 (0 : Int) x1 (↑(List.length x1) : Int) (0 : Int) x3 x4 x5)) (cond (val (L27_64_0 FU x0 (0 : Int) x1 (↑(List.length x1) : Int) (0 : Int) x3 x4 x5) == (0 : Int)) (some (.inl ())) (cond (decide ((0 : Int) ≤ x0)) (cond (decide (x0 < (↑(List.length x5) : Int))) (cond (decide (Int.toNat x0 < List.length x5)) (cond (decide (val (L27_64_0 FU x0 (0 : Int) x1 (↑(List.length x1) : Int) (0 : Int) x3 x4 x5) ≠ (0 : Int))) (cond (decide (List.getD x5 (Int.toNat x0) (0 : Int) < IntKind.wrap IntKind.i64 (Int.tdiv (IntKind.wrap IntKind.i64 (IntKind.wrap IntKind.i64 ((1000000000000 : Int) + val (L27_64_0 FU x0 (0 : Int) x1 (↑(List.length x1) : Int) (0 : Int) x3 x4 x5)) - (1 : Int))) (val (L27_64_0 FU x0 (0 : Int) x1 (↑(List.length x1) : Int) (0 : Int) x3 x4 x5))))) (some (.inl ())) (some (.inr ()))) none) none) none) none)) none)
noncomputable def xvR_1 (x0 : Int) (x1 : (List Int)) (x2 : Int) (x3 : (List Int)) (x4 : Bool) (x5 : (List Int)) : (Unit ⊕ Unit) → List TA × TH := fun r => match r with | .inl a0 => ([.sc (.bool (false))], [.loop 2 (some .ret) 27 161 106 [(5, .v (.sc (.ptr 1 0))), (6, .v (.sc (.ptr 2 0))), (8, .v (.sc (.ptr 3 0)))], .box 22 [.d 3 (.int .i64) (x3)], .box 4 [.bool (false)], .box 22 [.g 4], .row 3 (.int .i64) (x5)]) | .inr b0 => ([.sc (.bool (true))], [.loop 0 none 27 161 106 [(5, .v (.sc (.ptr 1 0))), (6, .v (.sc (.ptr 2 0))), (8, .v (.sc (.ptr 3 0)))], .box 22 [.d 3 (.int .i64) (x3)], .box 4 [.bool (x4)], .box 22 [.g 4], .row 3 (.int .i64) (x5)])
theorem evR_1 (x0 : Int) (x1 : (List Int)) (x2 : Int) (x3 : (List Int)) (x4 : Bool) (x5 : (List Int)) : evY Try.prog (mkTn base o48 t48) (TM.evF Try.prog (mkTn base o48 t48) dOk 40) dOk 40 [.sc (.yl 0), .sc (.int .i64 (x0)), .agg [.d 3 (.int .i64) (x1), .int .i64 (x2)]] [.loop 0 none 27 161 106 [(5, .v (.sc (.ptr 1 0))), (6, .v (.sc (.ptr 2 0))), (8, .v (.sc (.ptr 3 0)))], .box 22 [.d 3 (.int .i64) (x3)], .box 4 [.bool (x4)], .box 22 [.g 4], .row 3 (.int .i64) (x5)] = (vR_1 x0 x1 x2 x3 x4 x5).bind fun r => some (xvR_1 x0 x1 x2 x3 x4 x5 r) := by
  refine Eq.trans (b := (cond (ok (L27_64_0 FU x0 (0 : Int) x1 (↑(List.length x1) : Int) (0 : Int) x3 x4 x5)) (cond (val (L27_64_0 FU x0 (0 : Int) x1 (↑(List.length x1) : Int) (0 : Int) x3 x4 x5) == (0 : Int)) (some ([.sc (.bool (false))], [.loop 2 (some .ret) 27 161 106 [(5, .v (.sc (.ptr 1 0))), (6, .v (.sc (.ptr 2 0))), (8, .v (.sc (.ptr 3 0)))], .box 22 [.d 3 (.int .i64) (x3)], .box 4 [.bool (false)], .box 22 [.g 4], .row 3 (.int .i64) (x5)])) (cond (decide ((0 : Int) ≤ x0)) (cond (decide (x0 < (↑(List.length x5) : Int))) (cond (decide (Int.toNat x0 < List.length x5)) (cond (decide (val (L27_64_0 FU x0 (0 : Int) x1 (↑(List.length x1) : Int) (0 : Int) x3 x4 x5) ≠ (0 : Int))) (cond (decide (List.getD x5 (Int.toNat x0) (0 : Int) < IntKind.wrap IntKind.i64 (Int.tdiv (IntKind.wrap IntKind.i64 (IntKind.wrap IntKind.i64 ((1000000000000 : Int) + val (L27_64_0 FU x0 (0 : Int) x1 (↑(List.length x1) : Int) (0 : Int) x3 x4 x5)) - (1 : Int))) (val (L27_64_0 FU x0 (0 : Int) x1 (↑(List.length x1) : Int) (0 : Int) x3 x4 x5))))) (some ([.sc (.bool (false))], [.loop 2 (some .ret) 27 161 106 [(5, .v (.sc (.ptr 1 0))), (6, .v (.sc (.ptr 2 0))), (8, .v (.sc (.ptr 3 0)))], .box 22 [.d 3 (.int .i64) (x3)], .box 4 [.bool (false)], .box 22 [.g 4], .row 3 (.int .i64) (x5)])) (some ([.sc (.bool (true))], [.loop 0 none 27 161 106 [(5, .v (.sc (.ptr 1 0))), (6, .v (.sc (.ptr 2 0))), (8, .v (.sc (.ptr 3 0)))], .box 22 [.d 3 (.int .i64) (x3)], .box 4 [.bool (x4)], .box 22 [.g 4], .row 3 (.int .i64) (x5)]))) none) none) none) none)) none)) (by kernel_rfl) ?_
  unfold vR_1
  refine cond_bd ?_ ?_
  · refine cond_bd ?_ ?_
    · rfl
    · refine cond_bd ?_ ?_
      · refine cond_bd ?_ ?_
        · refine cond_bd ?_ ?_
          · refine cond_bd ?_ ?_
            · refine cond_bd ?_ ?_
              · rfl
              · rfl
            · rfl
          · rfl
        · rfl
      · rfl
  · rfl
noncomputable def svR_1 : OrcS := fun al H => dC al fun y1 l2 => dS y1 fun y3 => dYl 0 y3 <| dC l2 fun y4 l5 => dS y4 fun y6 => dInt .i64 y6 fun x0 => dC l5 fun y7 l8 => dA y7 fun y9 => dC y9 fun y10 l11 => dD 3 (.int .i64) y10 fun x1 => dCI .i64 l11 fun x2 l12 => dE l12 <| dE l8 <| dC H fun y14 l13 => dLoop 0 none 27 161 106 y14 fun y15 => dSs 5 y15 fun y17 l16 => dPtr 1 0 y17 <| dSs 6 l16 fun y19 l18 => dPtr 2 0 y19 <| dSs 8 l18 fun y21 l20 => dPtr 3 0 y21 <| dE l20 <| dHB 22 l13 fun y23 l22 => dC y23 fun y24 l25 => dD 3 (.int .i64) y24 fun x3 => dE l25 <| dHB 4 l22 fun y27 l26 => dC y27 fun y28 l29 => dBool y28 fun x4 => dE l29 <| dHB 22 l26 fun y31 l30 => dC y31 fun y32 l33 => dG 4 y32 <| dE l33 <| dHR 3 (.int .i64) l30 fun x5 l34 => dE l34 <|  some [(isL (vR_1 x0 x1 x2 x3 x4 x5), [.sc (.bool (false))], [.loop 2 (some .ret) 27 161 106 [(5, .v (.sc (.ptr 1 0))), (6, .v (.sc (.ptr 2 0))), (8, .v (.sc (.ptr 3 0)))], .box 22 [.d 3 (.int .i64) (x3)], .box 4 [.bool (false)], .box 22 [.g 4], .row 3 (.int .i64) (x5)]), (ok (getR (vR_1 x0 x1 x2 x3 x4 x5)), [.sc (.bool (true))], [.loop 0 none 27 161 106 [(5, .v (.sc (.ptr 1 0))), (6, .v (.sc (.ptr 2 0))), (8, .v (.sc (.ptr 3 0)))], .box 22 [.d 3 (.int .i64) (x3)], .box 4 [.bool (x4)], .box 22 [.g 4], .row 3 (.int .i64) (x5)])]
theorem wvR_1 : NewOrc Try.prog dOk base o48 t48 (4294967295, svR_1) := by
  intro al H q hq0 rs H2 h2
  have hq : svR_1 al H = some q := hq0
  clear hq0
  unfold svR_1 at hq
  replace hq := dC_some hq; obtain ⟨y1, l2, rfl, hq⟩ := hq
  replace hq := dS_some hq; obtain ⟨y3, rfl, hq⟩ := hq
  replace hq := dYl_some hq; obtain ⟨rfl, hq⟩ := hq
  replace hq := dC_some hq; obtain ⟨y4, l5, rfl, hq⟩ := hq
  replace hq := dS_some hq; obtain ⟨y6, rfl, hq⟩ := hq
  replace hq := dInt_some hq; obtain ⟨x0, rfl, hq⟩ := hq
  replace hq := dC_some hq; obtain ⟨y7, l8, rfl, hq⟩ := hq
  replace hq := dA_some hq; obtain ⟨y9, rfl, hq⟩ := hq
  replace hq := dC_some hq; obtain ⟨y10, l11, rfl, hq⟩ := hq
  replace hq := dD_some hq; obtain ⟨x1, rfl, hq⟩ := hq
  replace hq := dCI_some hq; obtain ⟨x2, l12, rfl, hq⟩ := hq
  replace hq := dE_some hq; obtain ⟨rfl, hq⟩ := hq
  replace hq := dE_some hq; obtain ⟨rfl, hq⟩ := hq
  replace hq := dC_some hq; obtain ⟨y14, l13, rfl, hq⟩ := hq
  replace hq := dLoop_some hq; obtain ⟨y15, rfl, hq⟩ := hq
  replace hq := dSs_some hq; obtain ⟨y17, l16, rfl, hq⟩ := hq
  replace hq := dPtr_some hq; obtain ⟨rfl, hq⟩ := hq
  replace hq := dSs_some hq; obtain ⟨y19, l18, rfl, hq⟩ := hq
  replace hq := dPtr_some hq; obtain ⟨rfl, hq⟩ := hq
  replace hq := dSs_some hq; obtain ⟨y21, l20, rfl, hq⟩ := hq
  replace hq := dPtr_some hq; obtain ⟨rfl, hq⟩ := hq
  replace hq := dE_some hq; obtain ⟨rfl, hq⟩ := hq
  replace hq := dHB_some hq; obtain ⟨y23, l22, rfl, hq⟩ := hq
  replace hq := dC_some hq; obtain ⟨y24, l25, rfl, hq⟩ := hq
  replace hq := dD_some hq; obtain ⟨x3, rfl, hq⟩ := hq
  replace hq := dE_some hq; obtain ⟨rfl, hq⟩ := hq
  replace hq := dHB_some hq; obtain ⟨y27, l26, rfl, hq⟩ := hq
  replace hq := dC_some hq; obtain ⟨y28, l29, rfl, hq⟩ := hq
  replace hq := dBool_some hq; obtain ⟨x4, rfl, hq⟩ := hq
  replace hq := dE_some hq; obtain ⟨rfl, hq⟩ := hq
  replace hq := dHB_some hq; obtain ⟨y31, l30, rfl, hq⟩ := hq
  replace hq := dC_some hq; obtain ⟨y32, l33, rfl, hq⟩ := hq
  replace hq := dG_some hq; obtain ⟨rfl, hq⟩ := hq
  replace hq := dE_some hq; obtain ⟨rfl, hq⟩ := hq
  replace hq := dHR_some hq; obtain ⟨x5, l34, rfl, hq⟩ := hq
  replace hq := dE_some hq; obtain ⟨rfl, hq⟩ := hq
  cases hq
  rcases pickR_cons h2 with ⟨hc0, rfl, rfl⟩ | h2
  · exact ⟨41, fnY_eq.trans ((evR_1 _ _ _ _ _ _).trans (bind_of (isL_val hc0)))⟩
  obtain ⟨hc1, rfl, rfl⟩ := pickR_one h2
  exact ⟨41, fnY_eq.trans ((evR_1 _ _ _ _ _ _).trans (bind_of (getR_val (ok_val hc1))))⟩
noncomputable def o49 : OrcT := (4294967295, svR_1) :: o48
noncomputable def t49 : TellT := t48
noncomputable abbrev tn49 : FuncId → TAn := mkTn base o49 t49
theorem ok49 : TnOk Try.prog tn49 (mkA base) dOk := by
  have h0 : TnOk Try.prog (mkTn base o48 t48) (mkA base) dOk := ok48
  have h1 := tn_orc h0 h0 (p := (4294967295, svR_1)) wvR_1
  exact h1
noncomputable def L52_16_1 : Nat → Int → (List (List (List Int))) → Int → Int → (List (List Int)) → Int → Int → (List Int) → Bool → (List Int) → (List Int) → (List (List (List Int))) → (List (List Int)) → Option (Bool ⊕ Unit)
  | 0, _, _, _, _, _, _, _, _, _, _, _, _, _ => none
  | n + 1, x0, x1, x2, x3, x4, x5, x6, x7, x8, x9, x10, x11, x12 => (cond (decide (x6 < x5)) (cond (decide ((0 : Int) ≤ x6)) (cond (decide (x6 < (↑(List.length x4) : Int))) (cond (decide ((0 : Int) ≤ x0)) (cond (decide (x0 < (↑(List.length x12) : Int))) (cond (decide (x6 < (↑(List.length (List.getD x12 (Int.toNat x0) [])) : Int))) (cond (isL (vR_1 x0 (List.getD x4 (Int.toNat x6) []) (List.getD (List.getD x12 (Int.toNat x0) []) (Int.toNat x6) (0 : Int)) x7 x8 x9)) (some (.inl (false))) (cond (ok (getR (vR_1 x0 (List.getD x4 (Int.toNat x6) []) (List.getD (List.getD x12 (Int.toNat x0) []) (Int.toNat x6) (0 : Int)) x7 x8 x9))) (L52_16_1 n (x0) (x1) (x2) (x3) (x4) (x5) (IntKind.wrap IntKind.i64 (x6 + (1 : Int))) (x7) (x8) (x9) (x10) (x11) (x12)) none)) none) none) none) none) none) (some (.inr ())))
theorem qL52_16_1 : type_of% @L52_16_1.eq_2 := @L52_16_1.eq_2
noncomputable def xL52_16_1 (x0 : Int) (x1 : (List (List (List Int)))) (x2 : Int) (x3 : Int) (x4 : (List (List Int))) (x5 : Int) (x6 : Int) (x7 : (List Int)) (x8 : Bool) (x9 : (List Int)) (x10 : (List Int)) (x11 : (List (List (List Int)))) (x12 : (List (List Int))) : (Bool ⊕ Unit) → Ex × CS := fun r => match r with | .inl a0 => (.ret, { sl := [], lo := [], h := [.loop 2 (some .ret) 27 161 106 [(5, .v (.sc (.ptr 1 0))), (6, .v (.sc (.ptr 2 0))), (8, .v (.sc (.ptr 3 0)))], .box 22 [.d 3 (.int .i64) (x7)], .box 4 [.bool (a0)], .box 22 [.g 4], .row 3 (.int .i64) (x9), .box 25 [.d 3 (.int .i64) (x10), .d 26 (.list 22 (.list 3 (.int .i64))) (x11)], .box 26 [.d 22 (.list 3 (.int .i64)) (x12)]], n0 := 7, w := true }) | .inr b0 => ((.exit 2), { sl := [(0, .v (.sc (.yl 0))), (2, .v (.sc (.ptr 6 0))), (9, .v (.sc (.d 26 (.list 22 (.list 3 (.int .i64))) (x1)))), (10, .v (.sc (.int .i64 (x2)))), (11, .v (.sc (.int .i64 (x3))))], lo := [], h := [.loop 0 none 27 161 106 [(5, .v (.sc (.ptr 1 0))), (6, .v (.sc (.ptr 2 0))), (8, .v (.sc (.ptr 3 0)))], .box 22 [.d 3 (.int .i64) (x7)], .box 4 [.bool (x8)], .box 22 [.g 4], .row 3 (.int .i64) (x9), .box 25 [.d 3 (.int .i64) (x10), .d 26 (.list 22 (.list 3 (.int .i64))) (x11)], .box 26 [.d 22 (.list 3 (.int .i64)) (x12)]], n0 := 7, w := false })
theorem bL52_16_1 (k : Nat) (cN : CS → Option (Ex × CS)) (cX : Ex → CS → Option (Ex × CS)) (x0 : Int) (x1 : (List (List (List Int)))) (x2 : Int) (x3 : Int) (x4 : (List (List Int))) (x5 : Int) (x6 : Int) (x7 : (List Int)) (x8 : Bool) (x9 : (List Int)) (x10 : (List Int)) (x11 : (List (List (List Int)))) (x12 : (List (List Int))) : loopBody Try.prog (mkTn base o49 t49 52) (TM.evF Try.prog (mkTn base o49 t49) dOk (k + 40)) dOk (k + 40) (codeAt Try.prog (tn0 52) 52 16) 2 16 { sl := [(0, .v (.sc (.yl 0))), (2, .v (.sc (.ptr 6 0))), (4, .v (.sc (.int .i64 (x0)))), (9, .v (.sc (.d 26 (.list 22 (.list 3 (.int .i64))) (x1)))), (10, .v (.sc (.int .i64 (x2)))), (11, .v (.sc (.int .i64 (x3)))), (16, .v (.sc (.d 22 (.list 3 (.int .i64)) (x4)))), (17, .v (.sc (.int .i64 (x5)))), (18, .v (.sc (.int .i64 (x6))))], lo := [], h := [.loop 0 none 27 161 106 [(5, .v (.sc (.ptr 1 0))), (6, .v (.sc (.ptr 2 0))), (8, .v (.sc (.ptr 3 0)))], .box 22 [.d 3 (.int .i64) (x7)], .box 4 [.bool (x8)], .box 22 [.g 4], .row 3 (.int .i64) (x9), .box 25 [.d 3 (.int .i64) (x10), .d 26 (.list 22 (.list 3 (.int .i64))) (x11)], .box 26 [.d 22 (.list 3 (.int .i64)) (x12)]], n0 := 7, w := false } cN cX = (cond (decide (x6 < x5)) (cond (decide ((0 : Int) ≤ x6)) (cond (decide (x6 < (↑(List.length x4) : Int))) (cond (decide ((0 : Int) ≤ x0)) (cond (decide (x0 < (↑(List.length x12) : Int))) (cond (decide ((0 : Int) ≤ x6)) (cond (decide (x6 < (↑(List.length (List.getD x12 (Int.toNat x0) [])) : Int))) (cond (isL (vR_1 x0 (List.getD x4 (Int.toNat x6) []) (List.getD (List.getD x12 (Int.toNat x0) []) (Int.toNat x6) (0 : Int)) x7 x8 x9)) (cX .ret { sl := [], lo := [], h := [.loop 2 (some .ret) 27 161 106 [(5, .v (.sc (.ptr 1 0))), (6, .v (.sc (.ptr 2 0))), (8, .v (.sc (.ptr 3 0)))], .box 22 [.d 3 (.int .i64) (x7)], .box 4 [.bool (false)], .box 22 [.g 4], .row 3 (.int .i64) (x9), .box 25 [.d 3 (.int .i64) (x10), .d 26 (.list 22 (.list 3 (.int .i64))) (x11)], .box 26 [.d 22 (.list 3 (.int .i64)) (x12)]], n0 := 7, w := true }) (cond (ok (getR (vR_1 x0 (List.getD x4 (Int.toNat x6) []) (List.getD (List.getD x12 (Int.toNat x0) []) (Int.toNat x6) (0 : Int)) x7 x8 x9))) (cN { sl := [(0, .v (.sc (.yl 0))), (2, .v (.sc (.ptr 6 0))), (4, .v (.sc (.int .i64 (x0)))), (9, .v (.sc (.d 26 (.list 22 (.list 3 (.int .i64))) (x1)))), (10, .v (.sc (.int .i64 (x2)))), (11, .v (.sc (.int .i64 (x3)))), (16, .v (.sc (.d 22 (.list 3 (.int .i64)) (x4)))), (17, .v (.sc (.int .i64 (x5)))), (18, .v (.sc (.int .i64 (IntKind.wrap IntKind.i64 (x6 + (1 : Int))))))], lo := [], h := [.loop 0 none 27 161 106 [(5, .v (.sc (.ptr 1 0))), (6, .v (.sc (.ptr 2 0))), (8, .v (.sc (.ptr 3 0)))], .box 22 [.d 3 (.int .i64) (x7)], .box 4 [.bool (x8)], .box 22 [.g 4], .row 3 (.int .i64) (x9), .box 25 [.d 3 (.int .i64) (x10), .d 26 (.list 22 (.list 3 (.int .i64))) (x11)], .box 26 [.d 22 (.list 3 (.int .i64)) (x12)]], n0 := 7, w := false }) none)) none) none) none) none) none) none) (cX (.exit 2) { sl := [(0, .v (.sc (.yl 0))), (2, .v (.sc (.ptr 6 0))), (9, .v (.sc (.d 26 (.list 22 (.list 3 (.int .i64))) (x1)))), (10, .v (.sc (.int .i64 (x2)))), (11, .v (.sc (.int .i64 (x3))))], lo := [], h := [.loop 0 none 27 161 106 [(5, .v (.sc (.ptr 1 0))), (6, .v (.sc (.ptr 2 0))), (8, .v (.sc (.ptr 3 0)))], .box 22 [.d 3 (.int .i64) (x7)], .box 4 [.bool (x8)], .box 22 [.g 4], .row 3 (.int .i64) (x9), .box 25 [.d 3 (.int .i64) (x10), .d 26 (.list 22 (.list 3 (.int .i64))) (x11)], .box 26 [.d 22 (.list 3 (.int .i64)) (x12)]], n0 := 7, w := false })) := by kernel_rfl
theorem lL52_16_1 (k m : Nat) : ∀ (n : Nat) (x0 : Int) (x1 : (List (List (List Int)))) (x2 : Int) (x3 : Int) (x4 : (List (List Int))) (x5 : Int) (x6 : Int) (x7 : (List Int)) (x8 : Bool) (x9 : (List Int)) (x10 : (List Int)) (x11 : (List (List (List Int)))) (x12 : (List (List Int))) (r : (Bool ⊕ Unit)), L52_16_1 n x0 x1 x2 x3 x4 x5 x6 x7 x8 x9 x10 x11 x12 = some r → loopE Try.prog (mkTn base o49 t49 52) (TM.evF Try.prog (mkTn base o49 t49) dOk (k + 40)) dOk (k + 40) (codeAt Try.prog (tn0 52) 52 16) 2 16 (n + m) { sl := [(0, .v (.sc (.yl 0))), (2, .v (.sc (.ptr 6 0))), (4, .v (.sc (.int .i64 (x0)))), (9, .v (.sc (.d 26 (.list 22 (.list 3 (.int .i64))) (x1)))), (10, .v (.sc (.int .i64 (x2)))), (11, .v (.sc (.int .i64 (x3)))), (16, .v (.sc (.d 22 (.list 3 (.int .i64)) (x4)))), (17, .v (.sc (.int .i64 (x5)))), (18, .v (.sc (.int .i64 (x6))))], lo := [], h := [.loop 0 none 27 161 106 [(5, .v (.sc (.ptr 1 0))), (6, .v (.sc (.ptr 2 0))), (8, .v (.sc (.ptr 3 0)))], .box 22 [.d 3 (.int .i64) (x7)], .box 4 [.bool (x8)], .box 22 [.g 4], .row 3 (.int .i64) (x9), .box 25 [.d 3 (.int .i64) (x10), .d 26 (.list 22 (.list 3 (.int .i64))) (x11)], .box 26 [.d 22 (.list 3 (.int .i64)) (x12)]], n0 := 7, w := false } = some (xL52_16_1 x0 x1 x2 x3 x4 x5 x6 x7 x8 x9 x10 x11 x12 r) := by
  intro n
  induction n with
  | zero => intro _ _ _ _ _ _ _ _ _ _ _ _ _ r h; cases h
  | succ n ih =>
    intro x0 x1 x2 x3 x4 x5 x6 x7 x8 x9 x10 x11 x12 r
    rw [show n + 1 + m = n + m + 1 by omega, loop_step, bL52_16_1, qL52_16_1]
    cases (decide (x6 < x5)) with
    | true =>
      cases (decide ((0 : Int) ≤ x6)) with
      | true =>
        cases (decide (x6 < (↑(List.length x4) : Int))) with
        | true =>
          cases (decide ((0 : Int) ≤ x0)) with
          | true =>
            cases (decide (x0 < (↑(List.length x12) : Int))) with
            | true =>
              cases (decide (x6 < (↑(List.length (List.getD x12 (Int.toNat x0) [])) : Int))) with
              | true =>
                cases (isL (vR_1 x0 (List.getD x4 (Int.toNat x6) []) (List.getD (List.getD x12 (Int.toNat x0) []) (Int.toNat x6) (0 : Int)) x7 x8 x9)) with
                | true =>
                  intro h; cases h; rfl
                | false =>
                  cases (ok (getR (vR_1 x0 (List.getD x4 (Int.toNat x6) []) (List.getD (List.getD x12 (Int.toNat x0) []) (Int.toNat x6) (0 : Int)) x7 x8 x9))) with
                  | true =>
                    exact ih _ _ _ _ _ _ _ _ _ _ _ _ _ r
                  | false =>
                    intro h; cases h
              | false =>
                intro h; cases h
            | false =>
              intro h; cases h
          | false =>
            intro h; cases h
        | false =>
          intro h; cases h
      | false =>
        intro h; cases h
    | false =>
      intro h; cases h; rfl
noncomputable def sL52_16_1 : TellS := fun S => dCS 7 S fun y1 y2 y3 => dSs 0 y1 fun y5 l4 => dYl 0 y5 <| dSs 2 l4 fun y7 l6 => dPtr 6 0 y7 <| dSI 4 .i64 l6 fun x0 l8 => dSs 9 l8 fun y10 l9 => dD 26 (.list 22 (.list 3 (.int .i64))) y10 fun x1 => dSI 10 .i64 l9 fun x2 l11 => dSI 11 .i64 l11 fun x3 l12 => dSs 16 l12 fun y14 l13 => dD 22 (.list 3 (.int .i64)) y14 fun x4 => dSI 17 .i64 l13 fun x5 l15 => dSI 18 .i64 l15 fun x6 l16 => dE l16 <| dE y2 <| dC y3 fun y18 l17 => dLoop 0 none 27 161 106 y18 fun y19 => dSs 5 y19 fun y21 l20 => dPtr 1 0 y21 <| dSs 6 l20 fun y23 l22 => dPtr 2 0 y23 <| dSs 8 l22 fun y25 l24 => dPtr 3 0 y25 <| dE l24 <| dHB 22 l17 fun y27 l26 => dC y27 fun y28 l29 => dD 3 (.int .i64) y28 fun x7 => dE l29 <| dHB 4 l26 fun y31 l30 => dC y31 fun y32 l33 => dBool y32 fun x8 => dE l33 <| dHB 22 l30 fun y35 l34 => dC y35 fun y36 l37 => dG 4 y36 <| dE l37 <| dHR 3 (.int .i64) l34 fun x9 l38 => dHB 25 l38 fun y40 l39 => dC y40 fun y41 l42 => dD 3 (.int .i64) y41 fun x10 => dC l42 fun y43 l44 => dD 26 (.list 22 (.list 3 (.int .i64))) y43 fun x11 => dE l44 <| dHB 26 l39 fun y46 l45 => dC y46 fun y47 l48 => dD 22 (.list 3 (.int .i64)) y47 fun x12 => dE l48 <| dE l45 <|  some [(isL (L52_16_1 FU x0 x1 x2 x3 x4 x5 x6 x7 x8 x9 x10 x11 x12), .ret, { sl := [], lo := [], h := [.loop 2 (some .ret) 27 161 106 [(5, .v (.sc (.ptr 1 0))), (6, .v (.sc (.ptr 2 0))), (8, .v (.sc (.ptr 3 0)))], .box 22 [.d 3 (.int .i64) (x7)], .box 4 [.bool ((getL (L52_16_1 FU x0 x1 x2 x3 x4 x5 x6 x7 x8 x9 x10 x11 x12)))], .box 22 [.g 4], .row 3 (.int .i64) (x9), .box 25 [.d 3 (.int .i64) (x10), .d 26 (.list 22 (.list 3 (.int .i64))) (x11)], .box 26 [.d 22 (.list 3 (.int .i64)) (x12)]], n0 := 7, w := true }), (ok (getR (L52_16_1 FU x0 x1 x2 x3 x4 x5 x6 x7 x8 x9 x10 x11 x12)), (.exit 2), { sl := [(0, .v (.sc (.yl 0))), (2, .v (.sc (.ptr 6 0))), (9, .v (.sc (.d 26 (.list 22 (.list 3 (.int .i64))) (x1)))), (10, .v (.sc (.int .i64 (x2)))), (11, .v (.sc (.int .i64 (x3))))], lo := [], h := [.loop 0 none 27 161 106 [(5, .v (.sc (.ptr 1 0))), (6, .v (.sc (.ptr 2 0))), (8, .v (.sc (.ptr 3 0)))], .box 22 [.d 3 (.int .i64) (x7)], .box 4 [.bool (x8)], .box 22 [.g 4], .row 3 (.int .i64) (x9), .box 25 [.d 3 (.int .i64) (x10), .d 26 (.list 22 (.list 3 (.int .i64))) (x11)], .box 26 [.d 22 (.list 3 (.int .i64)) (x12)]], n0 := 7, w := false })]
theorem wL52_16_1 : NewTell Try.prog dOk base o49 t49 ((52, 16), sL52_16_1) := by
  refine ⟨.loop (codeAt Try.prog (tn0 52) 52 16), 2, by kernel_rfl, ?_⟩
  intro S alts e S' h10 h2
  have h1 : sL52_16_1 S = some alts := h10
  clear h10
  unfold sL52_16_1 at h1
  replace h1 := dCS_some h1; obtain ⟨y1, y2, y3, rfl, h1⟩ := h1
  replace h1 := dSs_some h1; obtain ⟨y5, l4, rfl, h1⟩ := h1
  replace h1 := dYl_some h1; obtain ⟨rfl, h1⟩ := h1
  replace h1 := dSs_some h1; obtain ⟨y7, l6, rfl, h1⟩ := h1
  replace h1 := dPtr_some h1; obtain ⟨rfl, h1⟩ := h1
  replace h1 := dSI_some h1; obtain ⟨x0, l8, rfl, h1⟩ := h1
  replace h1 := dSs_some h1; obtain ⟨y10, l9, rfl, h1⟩ := h1
  replace h1 := dD_some h1; obtain ⟨x1, rfl, h1⟩ := h1
  replace h1 := dSI_some h1; obtain ⟨x2, l11, rfl, h1⟩ := h1
  replace h1 := dSI_some h1; obtain ⟨x3, l12, rfl, h1⟩ := h1
  replace h1 := dSs_some h1; obtain ⟨y14, l13, rfl, h1⟩ := h1
  replace h1 := dD_some h1; obtain ⟨x4, rfl, h1⟩ := h1
  replace h1 := dSI_some h1; obtain ⟨x5, l15, rfl, h1⟩ := h1
  replace h1 := dSI_some h1; obtain ⟨x6, l16, rfl, h1⟩ := h1
  replace h1 := dE_some h1; obtain ⟨rfl, h1⟩ := h1
  replace h1 := dE_some h1; obtain ⟨rfl, h1⟩ := h1
  replace h1 := dC_some h1; obtain ⟨y18, l17, rfl, h1⟩ := h1
  replace h1 := dLoop_some h1; obtain ⟨y19, rfl, h1⟩ := h1
  replace h1 := dSs_some h1; obtain ⟨y21, l20, rfl, h1⟩ := h1
  replace h1 := dPtr_some h1; obtain ⟨rfl, h1⟩ := h1
  replace h1 := dSs_some h1; obtain ⟨y23, l22, rfl, h1⟩ := h1
  replace h1 := dPtr_some h1; obtain ⟨rfl, h1⟩ := h1
  replace h1 := dSs_some h1; obtain ⟨y25, l24, rfl, h1⟩ := h1
  replace h1 := dPtr_some h1; obtain ⟨rfl, h1⟩ := h1
  replace h1 := dE_some h1; obtain ⟨rfl, h1⟩ := h1
  replace h1 := dHB_some h1; obtain ⟨y27, l26, rfl, h1⟩ := h1
  replace h1 := dC_some h1; obtain ⟨y28, l29, rfl, h1⟩ := h1
  replace h1 := dD_some h1; obtain ⟨x7, rfl, h1⟩ := h1
  replace h1 := dE_some h1; obtain ⟨rfl, h1⟩ := h1
  replace h1 := dHB_some h1; obtain ⟨y31, l30, rfl, h1⟩ := h1
  replace h1 := dC_some h1; obtain ⟨y32, l33, rfl, h1⟩ := h1
  replace h1 := dBool_some h1; obtain ⟨x8, rfl, h1⟩ := h1
  replace h1 := dE_some h1; obtain ⟨rfl, h1⟩ := h1
  replace h1 := dHB_some h1; obtain ⟨y35, l34, rfl, h1⟩ := h1
  replace h1 := dC_some h1; obtain ⟨y36, l37, rfl, h1⟩ := h1
  replace h1 := dG_some h1; obtain ⟨rfl, h1⟩ := h1
  replace h1 := dE_some h1; obtain ⟨rfl, h1⟩ := h1
  replace h1 := dHR_some h1; obtain ⟨x9, l38, rfl, h1⟩ := h1
  replace h1 := dHB_some h1; obtain ⟨y40, l39, rfl, h1⟩ := h1
  replace h1 := dC_some h1; obtain ⟨y41, l42, rfl, h1⟩ := h1
  replace h1 := dD_some h1; obtain ⟨x10, rfl, h1⟩ := h1
  replace h1 := dC_some h1; obtain ⟨y43, l44, rfl, h1⟩ := h1
  replace h1 := dD_some h1; obtain ⟨x11, rfl, h1⟩ := h1
  replace h1 := dE_some h1; obtain ⟨rfl, h1⟩ := h1
  replace h1 := dHB_some h1; obtain ⟨y46, l45, rfl, h1⟩ := h1
  replace h1 := dC_some h1; obtain ⟨y47, l48, rfl, h1⟩ := h1
  replace h1 := dD_some h1; obtain ⟨x12, rfl, h1⟩ := h1
  replace h1 := dE_some h1; obtain ⟨rfl, h1⟩ := h1
  replace h1 := dE_some h1; obtain ⟨rfl, h1⟩ := h1
  cases h1
  rcases pick_cons h2 with ⟨hc0, rfl, rfl⟩ | h2
  · exact ⟨FU + 40, (evPiece_loop rfl).trans (lL52_16_1 FU 40 FU _ _ _ _ _ _ _ _ _ _ _ _ _ _ (isL_val hc0))⟩
  obtain ⟨hc1, rfl, rfl⟩ := pick_one h2
  exact ⟨FU + 40, (evPiece_loop rfl).trans (lL52_16_1 FU 40 FU _ _ _ _ _ _ _ _ _ _ _ _ _ _ (getR_val (ok_val hc1)))⟩
noncomputable def o50 : OrcT := o49
noncomputable def t50 : TellT := ((52, 16), sL52_16_1) :: t49
noncomputable abbrev tn50 : FuncId → TAn := mkTn base o50 t50
theorem ok50 : TnOk Try.prog tn50 (mkA base) dOk := by
  have h0 : TnOk Try.prog (mkTn base o49 t49) (mkA base) dOk := ok49
  have h1 := tn_tell h0 h0 (p := ((52, 16), sL52_16_1)) wL52_16_1
  exact h1
noncomputable def L52_0_1 : Nat → (List (List (List Int))) → Int → Int → (List Int) → Bool → (List Int) → (List Int) → (List (List (List Int))) → (List (List Int)) → Option (Bool ⊕ Unit)
  | 0, _, _, _, _, _, _, _, _, _ => none
  | n + 1, x0, x1, x2, x3, x4, x5, x6, x7, x8 => (cond (decide (x2 < x1)) (cond (decide ((0 : Int) ≤ x2)) (cond (decide (x2 < (↑(List.length x0) : Int))) (cond (isL (L52_16_1 FU x2 x0 x1 x2 (List.getD x0 (Int.toNat x2) []) (↑(List.length (List.getD x0 (Int.toNat x2) [])) : Int) (0 : Int) x3 x4 x5 x6 x7 x8)) (some (.inl (getL (L52_16_1 FU x2 x0 x1 x2 (List.getD x0 (Int.toNat x2) []) (↑(List.length (List.getD x0 (Int.toNat x2) [])) : Int) (0 : Int) x3 x4 x5 x6 x7 x8)))) (cond (ok (getR (L52_16_1 FU x2 x0 x1 x2 (List.getD x0 (Int.toNat x2) []) (↑(List.length (List.getD x0 (Int.toNat x2) [])) : Int) (0 : Int) x3 x4 x5 x6 x7 x8))) (L52_0_1 n (x0) (x1) (IntKind.wrap IntKind.i64 (x2 + (1 : Int))) (x3) (x4) (x5) (x6) (x7) (x8)) none)) none) none) (some (.inr ())))
theorem qL52_0_1 : type_of% @L52_0_1.eq_2 := @L52_0_1.eq_2
noncomputable def xL52_0_1 (x0 : (List (List (List Int)))) (x1 : Int) (x2 : Int) (x3 : (List Int)) (x4 : Bool) (x5 : (List Int)) (x6 : (List Int)) (x7 : (List (List (List Int)))) (x8 : (List (List Int))) : (Bool ⊕ Unit) → Ex × CS := fun r => match r with | .inl a0 => (.ret, { sl := [], lo := [], h := [.loop 2 (some .ret) 27 161 106 [(5, .v (.sc (.ptr 1 0))), (6, .v (.sc (.ptr 2 0))), (8, .v (.sc (.ptr 3 0)))], .box 22 [.d 3 (.int .i64) (x3)], .box 4 [.bool (a0)], .box 22 [.g 4], .row 3 (.int .i64) (x5), .box 25 [.d 3 (.int .i64) (x6), .d 26 (.list 22 (.list 3 (.int .i64))) (x7)], .box 26 [.d 22 (.list 3 (.int .i64)) (x8)]], n0 := 7, w := true }) | .inr b0 => ((.exit 0), { sl := [], lo := [], h := [.loop 0 none 27 161 106 [(5, .v (.sc (.ptr 1 0))), (6, .v (.sc (.ptr 2 0))), (8, .v (.sc (.ptr 3 0)))], .box 22 [.d 3 (.int .i64) (x3)], .box 4 [.bool (x4)], .box 22 [.g 4], .row 3 (.int .i64) (x5), .box 25 [.d 3 (.int .i64) (x6), .d 26 (.list 22 (.list 3 (.int .i64))) (x7)], .box 26 [.d 22 (.list 3 (.int .i64)) (x8)]], n0 := 7, w := false })
theorem bL52_0_1 (k : Nat) (cN : CS → Option (Ex × CS)) (cX : Ex → CS → Option (Ex × CS)) (x0 : (List (List (List Int)))) (x1 : Int) (x2 : Int) (x3 : (List Int)) (x4 : Bool) (x5 : (List Int)) (x6 : (List Int)) (x7 : (List (List (List Int)))) (x8 : (List (List Int))) : loopBody Try.prog (mkTn base o50 t50 52) (TM.evF Try.prog (mkTn base o50 t50) dOk (k + 40)) dOk (k + 40) (codeAt Try.prog (tn0 52) 52 0) 0 0 { sl := [(0, .v (.sc (.yl 0))), (2, .v (.sc (.ptr 6 0))), (9, .v (.sc (.d 26 (.list 22 (.list 3 (.int .i64))) (x0)))), (10, .v (.sc (.int .i64 (x1)))), (11, .v (.sc (.int .i64 (x2))))], lo := [], h := [.loop 0 none 27 161 106 [(5, .v (.sc (.ptr 1 0))), (6, .v (.sc (.ptr 2 0))), (8, .v (.sc (.ptr 3 0)))], .box 22 [.d 3 (.int .i64) (x3)], .box 4 [.bool (x4)], .box 22 [.g 4], .row 3 (.int .i64) (x5), .box 25 [.d 3 (.int .i64) (x6), .d 26 (.list 22 (.list 3 (.int .i64))) (x7)], .box 26 [.d 22 (.list 3 (.int .i64)) (x8)]], n0 := 7, w := false } cN cX = (cond (decide (x2 < x1)) (cond (decide ((0 : Int) ≤ x2)) (cond (decide (x2 < (↑(List.length x0) : Int))) (cond (isL (L52_16_1 FU x2 x0 x1 x2 (List.getD x0 (Int.toNat x2) []) (↑(List.length (List.getD x0 (Int.toNat x2) [])) : Int) (0 : Int) x3 x4 x5 x6 x7 x8)) (cX .ret { sl := [], lo := [], h := [.loop 2 (some .ret) 27 161 106 [(5, .v (.sc (.ptr 1 0))), (6, .v (.sc (.ptr 2 0))), (8, .v (.sc (.ptr 3 0)))], .box 22 [.d 3 (.int .i64) (x3)], .box 4 [.bool (getL (L52_16_1 FU x2 x0 x1 x2 (List.getD x0 (Int.toNat x2) []) (↑(List.length (List.getD x0 (Int.toNat x2) [])) : Int) (0 : Int) x3 x4 x5 x6 x7 x8))], .box 22 [.g 4], .row 3 (.int .i64) (x5), .box 25 [.d 3 (.int .i64) (x6), .d 26 (.list 22 (.list 3 (.int .i64))) (x7)], .box 26 [.d 22 (.list 3 (.int .i64)) (x8)]], n0 := 7, w := true }) (cond (ok (getR (L52_16_1 FU x2 x0 x1 x2 (List.getD x0 (Int.toNat x2) []) (↑(List.length (List.getD x0 (Int.toNat x2) [])) : Int) (0 : Int) x3 x4 x5 x6 x7 x8))) (cN { sl := [(0, .v (.sc (.yl 0))), (2, .v (.sc (.ptr 6 0))), (9, .v (.sc (.d 26 (.list 22 (.list 3 (.int .i64))) (x0)))), (10, .v (.sc (.int .i64 (x1)))), (11, .v (.sc (.int .i64 (IntKind.wrap IntKind.i64 (x2 + (1 : Int))))))], lo := [], h := [.loop 0 none 27 161 106 [(5, .v (.sc (.ptr 1 0))), (6, .v (.sc (.ptr 2 0))), (8, .v (.sc (.ptr 3 0)))], .box 22 [.d 3 (.int .i64) (x3)], .box 4 [.bool (x4)], .box 22 [.g 4], .row 3 (.int .i64) (x5), .box 25 [.d 3 (.int .i64) (x6), .d 26 (.list 22 (.list 3 (.int .i64))) (x7)], .box 26 [.d 22 (.list 3 (.int .i64)) (x8)]], n0 := 7, w := false }) none)) none) none) (cX (.exit 0) { sl := [], lo := [], h := [.loop 0 none 27 161 106 [(5, .v (.sc (.ptr 1 0))), (6, .v (.sc (.ptr 2 0))), (8, .v (.sc (.ptr 3 0)))], .box 22 [.d 3 (.int .i64) (x3)], .box 4 [.bool (x4)], .box 22 [.g 4], .row 3 (.int .i64) (x5), .box 25 [.d 3 (.int .i64) (x6), .d 26 (.list 22 (.list 3 (.int .i64))) (x7)], .box 26 [.d 22 (.list 3 (.int .i64)) (x8)]], n0 := 7, w := false })) := by kernel_rfl
theorem lL52_0_1 (k m : Nat) : ∀ (n : Nat) (x0 : (List (List (List Int)))) (x1 : Int) (x2 : Int) (x3 : (List Int)) (x4 : Bool) (x5 : (List Int)) (x6 : (List Int)) (x7 : (List (List (List Int)))) (x8 : (List (List Int))) (r : (Bool ⊕ Unit)), L52_0_1 n x0 x1 x2 x3 x4 x5 x6 x7 x8 = some r → loopE Try.prog (mkTn base o50 t50 52) (TM.evF Try.prog (mkTn base o50 t50) dOk (k + 40)) dOk (k + 40) (codeAt Try.prog (tn0 52) 52 0) 0 0 (n + m) { sl := [(0, .v (.sc (.yl 0))), (2, .v (.sc (.ptr 6 0))), (9, .v (.sc (.d 26 (.list 22 (.list 3 (.int .i64))) (x0)))), (10, .v (.sc (.int .i64 (x1)))), (11, .v (.sc (.int .i64 (x2))))], lo := [], h := [.loop 0 none 27 161 106 [(5, .v (.sc (.ptr 1 0))), (6, .v (.sc (.ptr 2 0))), (8, .v (.sc (.ptr 3 0)))], .box 22 [.d 3 (.int .i64) (x3)], .box 4 [.bool (x4)], .box 22 [.g 4], .row 3 (.int .i64) (x5), .box 25 [.d 3 (.int .i64) (x6), .d 26 (.list 22 (.list 3 (.int .i64))) (x7)], .box 26 [.d 22 (.list 3 (.int .i64)) (x8)]], n0 := 7, w := false } = some (xL52_0_1 x0 x1 x2 x3 x4 x5 x6 x7 x8 r) := by
  intro n
  induction n with
  | zero => intro _ _ _ _ _ _ _ _ _ r h; cases h
  | succ n ih =>
    intro x0 x1 x2 x3 x4 x5 x6 x7 x8 r
    rw [show n + 1 + m = n + m + 1 by omega, loop_step, bL52_0_1, qL52_0_1]
    refine cond_go ?_ ?_
    · refine cond_go ?_ ?_
      · refine cond_go ?_ ?_
        · refine cond_go ?_ ?_
          · intro h; cases h; rfl
          · refine cond_go ?_ ?_
            · exact ih _ _ _ _ _ _ _ _ _ r
            · intro h; cases h
        · intro h; cases h
      · intro h; cases h
    · intro h; cases h; rfl
noncomputable def sL52_0_1 : TellS := fun S => dCS 7 S fun y1 y2 y3 => dSs 0 y1 fun y5 l4 => dYl 0 y5 <| dSs 2 l4 fun y7 l6 => dPtr 6 0 y7 <| dSs 9 l6 fun y9 l8 => dD 26 (.list 22 (.list 3 (.int .i64))) y9 fun x0 => dSI 10 .i64 l8 fun x1 l10 => dSI 11 .i64 l10 fun x2 l11 => dE l11 <| dE y2 <| dC y3 fun y13 l12 => dLoop 0 none 27 161 106 y13 fun y14 => dSs 5 y14 fun y16 l15 => dPtr 1 0 y16 <| dSs 6 l15 fun y18 l17 => dPtr 2 0 y18 <| dSs 8 l17 fun y20 l19 => dPtr 3 0 y20 <| dE l19 <| dHB 22 l12 fun y22 l21 => dC y22 fun y23 l24 => dD 3 (.int .i64) y23 fun x3 => dE l24 <| dHB 4 l21 fun y26 l25 => dC y26 fun y27 l28 => dBool y27 fun x4 => dE l28 <| dHB 22 l25 fun y30 l29 => dC y30 fun y31 l32 => dG 4 y31 <| dE l32 <| dHR 3 (.int .i64) l29 fun x5 l33 => dHB 25 l33 fun y35 l34 => dC y35 fun y36 l37 => dD 3 (.int .i64) y36 fun x6 => dC l37 fun y38 l39 => dD 26 (.list 22 (.list 3 (.int .i64))) y38 fun x7 => dE l39 <| dHB 26 l34 fun y41 l40 => dC y41 fun y42 l43 => dD 22 (.list 3 (.int .i64)) y42 fun x8 => dE l43 <| dE l40 <|  some [(isL (L52_0_1 FU x0 x1 x2 x3 x4 x5 x6 x7 x8), .ret, { sl := [], lo := [], h := [.loop 2 (some .ret) 27 161 106 [(5, .v (.sc (.ptr 1 0))), (6, .v (.sc (.ptr 2 0))), (8, .v (.sc (.ptr 3 0)))], .box 22 [.d 3 (.int .i64) (x3)], .box 4 [.bool ((getL (L52_0_1 FU x0 x1 x2 x3 x4 x5 x6 x7 x8)))], .box 22 [.g 4], .row 3 (.int .i64) (x5), .box 25 [.d 3 (.int .i64) (x6), .d 26 (.list 22 (.list 3 (.int .i64))) (x7)], .box 26 [.d 22 (.list 3 (.int .i64)) (x8)]], n0 := 7, w := true }), (ok (getR (L52_0_1 FU x0 x1 x2 x3 x4 x5 x6 x7 x8)), (.exit 0), { sl := [], lo := [], h := [.loop 0 none 27 161 106 [(5, .v (.sc (.ptr 1 0))), (6, .v (.sc (.ptr 2 0))), (8, .v (.sc (.ptr 3 0)))], .box 22 [.d 3 (.int .i64) (x3)], .box 4 [.bool (x4)], .box 22 [.g 4], .row 3 (.int .i64) (x5), .box 25 [.d 3 (.int .i64) (x6), .d 26 (.list 22 (.list 3 (.int .i64))) (x7)], .box 26 [.d 22 (.list 3 (.int .i64)) (x8)]], n0 := 7, w := false })]
theorem wL52_0_1 : NewTell Try.prog dOk base o50 t50 ((52, 0), sL52_0_1) := by
  refine ⟨.loop (codeAt Try.prog (tn0 52) 52 0), 0, by kernel_rfl, ?_⟩
  intro S alts e S' h10 h2
  have h1 : sL52_0_1 S = some alts := h10
  clear h10
  unfold sL52_0_1 at h1
  replace h1 := dCS_some h1; obtain ⟨y1, y2, y3, rfl, h1⟩ := h1
  replace h1 := dSs_some h1; obtain ⟨y5, l4, rfl, h1⟩ := h1
  replace h1 := dYl_some h1; obtain ⟨rfl, h1⟩ := h1
  replace h1 := dSs_some h1; obtain ⟨y7, l6, rfl, h1⟩ := h1
  replace h1 := dPtr_some h1; obtain ⟨rfl, h1⟩ := h1
  replace h1 := dSs_some h1; obtain ⟨y9, l8, rfl, h1⟩ := h1
  replace h1 := dD_some h1; obtain ⟨x0, rfl, h1⟩ := h1
  replace h1 := dSI_some h1; obtain ⟨x1, l10, rfl, h1⟩ := h1
  replace h1 := dSI_some h1; obtain ⟨x2, l11, rfl, h1⟩ := h1
  replace h1 := dE_some h1; obtain ⟨rfl, h1⟩ := h1
  replace h1 := dE_some h1; obtain ⟨rfl, h1⟩ := h1
  replace h1 := dC_some h1; obtain ⟨y13, l12, rfl, h1⟩ := h1
  replace h1 := dLoop_some h1; obtain ⟨y14, rfl, h1⟩ := h1
  replace h1 := dSs_some h1; obtain ⟨y16, l15, rfl, h1⟩ := h1
  replace h1 := dPtr_some h1; obtain ⟨rfl, h1⟩ := h1
  replace h1 := dSs_some h1; obtain ⟨y18, l17, rfl, h1⟩ := h1
  replace h1 := dPtr_some h1; obtain ⟨rfl, h1⟩ := h1
  replace h1 := dSs_some h1; obtain ⟨y20, l19, rfl, h1⟩ := h1
  replace h1 := dPtr_some h1; obtain ⟨rfl, h1⟩ := h1
  replace h1 := dE_some h1; obtain ⟨rfl, h1⟩ := h1
  replace h1 := dHB_some h1; obtain ⟨y22, l21, rfl, h1⟩ := h1
  replace h1 := dC_some h1; obtain ⟨y23, l24, rfl, h1⟩ := h1
  replace h1 := dD_some h1; obtain ⟨x3, rfl, h1⟩ := h1
  replace h1 := dE_some h1; obtain ⟨rfl, h1⟩ := h1
  replace h1 := dHB_some h1; obtain ⟨y26, l25, rfl, h1⟩ := h1
  replace h1 := dC_some h1; obtain ⟨y27, l28, rfl, h1⟩ := h1
  replace h1 := dBool_some h1; obtain ⟨x4, rfl, h1⟩ := h1
  replace h1 := dE_some h1; obtain ⟨rfl, h1⟩ := h1
  replace h1 := dHB_some h1; obtain ⟨y30, l29, rfl, h1⟩ := h1
  replace h1 := dC_some h1; obtain ⟨y31, l32, rfl, h1⟩ := h1
  replace h1 := dG_some h1; obtain ⟨rfl, h1⟩ := h1
  replace h1 := dE_some h1; obtain ⟨rfl, h1⟩ := h1
  replace h1 := dHR_some h1; obtain ⟨x5, l33, rfl, h1⟩ := h1
  replace h1 := dHB_some h1; obtain ⟨y35, l34, rfl, h1⟩ := h1
  replace h1 := dC_some h1; obtain ⟨y36, l37, rfl, h1⟩ := h1
  replace h1 := dD_some h1; obtain ⟨x6, rfl, h1⟩ := h1
  replace h1 := dC_some h1; obtain ⟨y38, l39, rfl, h1⟩ := h1
  replace h1 := dD_some h1; obtain ⟨x7, rfl, h1⟩ := h1
  replace h1 := dE_some h1; obtain ⟨rfl, h1⟩ := h1
  replace h1 := dHB_some h1; obtain ⟨y41, l40, rfl, h1⟩ := h1
  replace h1 := dC_some h1; obtain ⟨y42, l43, rfl, h1⟩ := h1
  replace h1 := dD_some h1; obtain ⟨x8, rfl, h1⟩ := h1
  replace h1 := dE_some h1; obtain ⟨rfl, h1⟩ := h1
  replace h1 := dE_some h1; obtain ⟨rfl, h1⟩ := h1
  cases h1
  rcases pick_cons h2 with ⟨hc0, rfl, rfl⟩ | h2
  · exact ⟨FU + 40, (evPiece_loop rfl).trans (lL52_0_1 FU 40 FU _ _ _ _ _ _ _ _ _ _ (isL_val hc0))⟩
  obtain ⟨hc1, rfl, rfl⟩ := pick_one h2
  exact ⟨FU + 40, (evPiece_loop rfl).trans (lL52_0_1 FU 40 FU _ _ _ _ _ _ _ _ _ _ (getR_val (ok_val hc1)))⟩
noncomputable def o51 : OrcT := o50
noncomputable def t51 : TellT := ((52, 0), sL52_0_1) :: t50
noncomputable abbrev tn51 : FuncId → TAn := mkTn base o51 t51
theorem ok51 : TnOk Try.prog tn51 (mkA base) dOk := by
  have h0 : TnOk Try.prog (mkTn base o50 t50) (mkA base) dOk := ok50
  have h1 := tn_tell h0 h0 (p := ((52, 0), sL52_0_1)) wL52_0_1
  exact h1
noncomputable def v52_1 (x0 : (List Int)) (x1 : Bool) (x2 : (List Int)) (x3 : (List Int)) (x4 : (List (List (List Int)))) (x5 : (List (List Int))) : Option (Bool ⊕ Unit) := (cond (isL (L52_0_1 FU x4 (↑(List.length x4) : Int) (0 : Int) x0 x1 x2 x3 x4 x5)) (some (.inl (getL (L52_0_1 FU x4 (↑(List.length x4) : Int) (0 : Int) x0 x1 x2 x3 x4 x5)))) (cond (ok (getR (L52_0_1 FU x4 (↑(List.length x4) : Int) (0 : Int) x0 x1 x2 x3 x4 x5))) (some (.inr ())) none))
noncomputable def xv52_1 (x0 : (List Int)) (x1 : Bool) (x2 : (List Int)) (x3 : (List Int)) (x4 : (List (List (List Int)))) (x5 : (List (List Int))) : (Bool ⊕ Unit) → List TA × TH := fun r => match r with | .inl a0 => ([], [.loop 2 (some .ret) 27 161 106 [(5, .v (.sc (.ptr 1 0))), (6, .v (.sc (.ptr 2 0))), (8, .v (.sc (.ptr 3 0)))], .box 22 [.d 3 (.int .i64) (x0)], .box 4 [.bool (a0)], .box 22 [.g 4], .row 3 (.int .i64) (x2), .box 25 [.d 3 (.int .i64) (x3), .d 26 (.list 22 (.list 3 (.int .i64))) (x4)], .box 26 [.d 22 (.list 3 (.int .i64)) (x5)]]) | .inr b0 => ([], [.loop 0 none 27 161 106 [(5, .v (.sc (.ptr 1 0))), (6, .v (.sc (.ptr 2 0))), (8, .v (.sc (.ptr 3 0)))], .box 22 [.d 3 (.int .i64) (x0)], .box 4 [.bool (x1)], .box 22 [.g 4], .row 3 (.int .i64) (x2), .box 25 [.d 3 (.int .i64) (x3), .d 26 (.list 22 (.list 3 (.int .i64))) (x4)], .box 26 [.d 22 (.list 3 (.int .i64)) (x5)]])
theorem ev52_1 (x0 : (List Int)) (x1 : Bool) (x2 : (List Int)) (x3 : (List Int)) (x4 : (List (List (List Int)))) (x5 : (List (List Int))) : fnBody Try.prog (mkTn base o51 t51 52) (TM.evF Try.prog (mkTn base o51 t51) dOk 40) dOk 40 52 [.sc (.yl 0), .sc (.ptr 5 0), .sc (.ptr 6 0)] [.loop 0 none 27 161 106 [(5, .v (.sc (.ptr 1 0))), (6, .v (.sc (.ptr 2 0))), (8, .v (.sc (.ptr 3 0)))], .box 22 [.d 3 (.int .i64) (x0)], .box 4 [.bool (x1)], .box 22 [.g 4], .row 3 (.int .i64) (x2), .box 25 [.d 3 (.int .i64) (x3), .d 26 (.list 22 (.list 3 (.int .i64))) (x4)], .box 26 [.d 22 (.list 3 (.int .i64)) (x5)]] = (v52_1 x0 x1 x2 x3 x4 x5).bind fun r => some (xv52_1 x0 x1 x2 x3 x4 x5 r) := by
  refine Eq.trans (b := (cond (isL (L52_0_1 FU x4 (↑(List.length x4) : Int) (0 : Int) x0 x1 x2 x3 x4 x5)) (some ([], [.loop 2 (some .ret) 27 161 106 [(5, .v (.sc (.ptr 1 0))), (6, .v (.sc (.ptr 2 0))), (8, .v (.sc (.ptr 3 0)))], .box 22 [.d 3 (.int .i64) (x0)], .box 4 [.bool (getL (L52_0_1 FU x4 (↑(List.length x4) : Int) (0 : Int) x0 x1 x2 x3 x4 x5))], .box 22 [.g 4], .row 3 (.int .i64) (x2), .box 25 [.d 3 (.int .i64) (x3), .d 26 (.list 22 (.list 3 (.int .i64))) (x4)], .box 26 [.d 22 (.list 3 (.int .i64)) (x5)]])) (cond (ok (getR (L52_0_1 FU x4 (↑(List.length x4) : Int) (0 : Int) x0 x1 x2 x3 x4 x5))) (some ([], [.loop 0 none 27 161 106 [(5, .v (.sc (.ptr 1 0))), (6, .v (.sc (.ptr 2 0))), (8, .v (.sc (.ptr 3 0)))], .box 22 [.d 3 (.int .i64) (x0)], .box 4 [.bool (x1)], .box 22 [.g 4], .row 3 (.int .i64) (x2), .box 25 [.d 3 (.int .i64) (x3), .d 26 (.list 22 (.list 3 (.int .i64))) (x4)], .box 26 [.d 22 (.list 3 (.int .i64)) (x5)]])) none))) (by kernel_rfl) ?_
  unfold v52_1
  refine cond_bd ?_ ?_
  · rfl
  · refine cond_bd ?_ ?_
    · rfl
    · rfl
noncomputable def sv52_1 : OrcS := fun al H => dC al fun y1 l2 => dS y1 fun y3 => dYl 0 y3 <| dC l2 fun y4 l5 => dS y4 fun y6 => dPtr 5 0 y6 <| dC l5 fun y7 l8 => dS y7 fun y9 => dPtr 6 0 y9 <| dE l8 <| dC H fun y11 l10 => dLoop 0 none 27 161 106 y11 fun y12 => dSs 5 y12 fun y14 l13 => dPtr 1 0 y14 <| dSs 6 l13 fun y16 l15 => dPtr 2 0 y16 <| dSs 8 l15 fun y18 l17 => dPtr 3 0 y18 <| dE l17 <| dHB 22 l10 fun y20 l19 => dC y20 fun y21 l22 => dD 3 (.int .i64) y21 fun x0 => dE l22 <| dHB 4 l19 fun y24 l23 => dC y24 fun y25 l26 => dBool y25 fun x1 => dE l26 <| dHB 22 l23 fun y28 l27 => dC y28 fun y29 l30 => dG 4 y29 <| dE l30 <| dHR 3 (.int .i64) l27 fun x2 l31 => dHB 25 l31 fun y33 l32 => dC y33 fun y34 l35 => dD 3 (.int .i64) y34 fun x3 => dC l35 fun y36 l37 => dD 26 (.list 22 (.list 3 (.int .i64))) y36 fun x4 => dE l37 <| dHB 26 l32 fun y39 l38 => dC y39 fun y40 l41 => dD 22 (.list 3 (.int .i64)) y40 fun x5 => dE l41 <| dE l38 <|  some [(isL (v52_1 x0 x1 x2 x3 x4 x5), [], [.loop 2 (some .ret) 27 161 106 [(5, .v (.sc (.ptr 1 0))), (6, .v (.sc (.ptr 2 0))), (8, .v (.sc (.ptr 3 0)))], .box 22 [.d 3 (.int .i64) (x0)], .box 4 [.bool ((getL (v52_1 x0 x1 x2 x3 x4 x5)))], .box 22 [.g 4], .row 3 (.int .i64) (x2), .box 25 [.d 3 (.int .i64) (x3), .d 26 (.list 22 (.list 3 (.int .i64))) (x4)], .box 26 [.d 22 (.list 3 (.int .i64)) (x5)]]), (ok (getR (v52_1 x0 x1 x2 x3 x4 x5)), [], [.loop 0 none 27 161 106 [(5, .v (.sc (.ptr 1 0))), (6, .v (.sc (.ptr 2 0))), (8, .v (.sc (.ptr 3 0)))], .box 22 [.d 3 (.int .i64) (x0)], .box 4 [.bool (x1)], .box 22 [.g 4], .row 3 (.int .i64) (x2), .box 25 [.d 3 (.int .i64) (x3), .d 26 (.list 22 (.list 3 (.int .i64))) (x4)], .box 26 [.d 22 (.list 3 (.int .i64)) (x5)]])]
theorem wv52_1 : NewOrc Try.prog dOk base o51 t51 (52, sv52_1) := by
  intro al H q hq0 rs H2 h2
  have hq : sv52_1 al H = some q := hq0
  clear hq0
  unfold sv52_1 at hq
  replace hq := dC_some hq; obtain ⟨y1, l2, rfl, hq⟩ := hq
  replace hq := dS_some hq; obtain ⟨y3, rfl, hq⟩ := hq
  replace hq := dYl_some hq; obtain ⟨rfl, hq⟩ := hq
  replace hq := dC_some hq; obtain ⟨y4, l5, rfl, hq⟩ := hq
  replace hq := dS_some hq; obtain ⟨y6, rfl, hq⟩ := hq
  replace hq := dPtr_some hq; obtain ⟨rfl, hq⟩ := hq
  replace hq := dC_some hq; obtain ⟨y7, l8, rfl, hq⟩ := hq
  replace hq := dS_some hq; obtain ⟨y9, rfl, hq⟩ := hq
  replace hq := dPtr_some hq; obtain ⟨rfl, hq⟩ := hq
  replace hq := dE_some hq; obtain ⟨rfl, hq⟩ := hq
  replace hq := dC_some hq; obtain ⟨y11, l10, rfl, hq⟩ := hq
  replace hq := dLoop_some hq; obtain ⟨y12, rfl, hq⟩ := hq
  replace hq := dSs_some hq; obtain ⟨y14, l13, rfl, hq⟩ := hq
  replace hq := dPtr_some hq; obtain ⟨rfl, hq⟩ := hq
  replace hq := dSs_some hq; obtain ⟨y16, l15, rfl, hq⟩ := hq
  replace hq := dPtr_some hq; obtain ⟨rfl, hq⟩ := hq
  replace hq := dSs_some hq; obtain ⟨y18, l17, rfl, hq⟩ := hq
  replace hq := dPtr_some hq; obtain ⟨rfl, hq⟩ := hq
  replace hq := dE_some hq; obtain ⟨rfl, hq⟩ := hq
  replace hq := dHB_some hq; obtain ⟨y20, l19, rfl, hq⟩ := hq
  replace hq := dC_some hq; obtain ⟨y21, l22, rfl, hq⟩ := hq
  replace hq := dD_some hq; obtain ⟨x0, rfl, hq⟩ := hq
  replace hq := dE_some hq; obtain ⟨rfl, hq⟩ := hq
  replace hq := dHB_some hq; obtain ⟨y24, l23, rfl, hq⟩ := hq
  replace hq := dC_some hq; obtain ⟨y25, l26, rfl, hq⟩ := hq
  replace hq := dBool_some hq; obtain ⟨x1, rfl, hq⟩ := hq
  replace hq := dE_some hq; obtain ⟨rfl, hq⟩ := hq
  replace hq := dHB_some hq; obtain ⟨y28, l27, rfl, hq⟩ := hq
  replace hq := dC_some hq; obtain ⟨y29, l30, rfl, hq⟩ := hq
  replace hq := dG_some hq; obtain ⟨rfl, hq⟩ := hq
  replace hq := dE_some hq; obtain ⟨rfl, hq⟩ := hq
  replace hq := dHR_some hq; obtain ⟨x2, l31, rfl, hq⟩ := hq
  replace hq := dHB_some hq; obtain ⟨y33, l32, rfl, hq⟩ := hq
  replace hq := dC_some hq; obtain ⟨y34, l35, rfl, hq⟩ := hq
  replace hq := dD_some hq; obtain ⟨x3, rfl, hq⟩ := hq
  replace hq := dC_some hq; obtain ⟨y36, l37, rfl, hq⟩ := hq
  replace hq := dD_some hq; obtain ⟨x4, rfl, hq⟩ := hq
  replace hq := dE_some hq; obtain ⟨rfl, hq⟩ := hq
  replace hq := dHB_some hq; obtain ⟨y39, l38, rfl, hq⟩ := hq
  replace hq := dC_some hq; obtain ⟨y40, l41, rfl, hq⟩ := hq
  replace hq := dD_some hq; obtain ⟨x5, rfl, hq⟩ := hq
  replace hq := dE_some hq; obtain ⟨rfl, hq⟩ := hq
  replace hq := dE_some hq; obtain ⟨rfl, hq⟩ := hq
  cases hq
  rcases pickR_cons h2 with ⟨hc0, rfl, rfl⟩ | h2
  · exact ⟨41, (fn_eq (by kernel_rfl)).trans ((ev52_1 _ _ _ _ _ _).trans (bind_of (isL_val hc0)))⟩
  obtain ⟨hc1, rfl, rfl⟩ := pickR_one h2
  exact ⟨41, (fn_eq (by kernel_rfl)).trans ((ev52_1 _ _ _ _ _ _).trans (bind_of (getR_val (ok_val hc1))))⟩
noncomputable def o52 : OrcT := (52, sv52_1) :: o51
noncomputable def t52 : TellT := t51
noncomputable abbrev tn52 : FuncId → TAn := mkTn base o52 t52
theorem ok52 : TnOk Try.prog tn52 (mkA base) dOk := by
  have h0 : TnOk Try.prog (mkTn base o51 t51) (mkA base) dOk := ok51
  have h1 := tn_orc h0 h0 (p := (52, sv52_1)) wv52_1
  exact h1
noncomputable def v27 (x0 : (List Int)) (x1 : (List (List (List Int)))) (x2 : (List (List Int))) (x3 : (List Int)) : Option Bool := (cond (decide ((↑(List.length x0) : Int) ≤ (↑(List.length x0) : Int))) (cond (decide ((↑(List.length x0) : Int) ≤ (↑(nat_lit 2147483648) : Int))) (cond (decide ((↑(List.length x1) : Int) ≤ (↑(List.length x1) : Int))) (cond (decide ((↑(List.length x1) : Int) ≤ (↑(nat_lit 2147483648) : Int))) (cond (ok (v52 (List.replicate (Int.toNat (↑(List.length x0) : Int)) (0 : Int)) (List.replicate (Int.toNat (↑(List.length x1) : Int)) (0 : Int)) x0 x1 x2)) (cond (isL (L27_32_0 FU x2 (↑(List.length (Prod.fst (val (v52 (List.replicate (Int.toNat (↑(List.length x0) : Int)) (0 : Int)) (List.replicate (Int.toNat (↑(List.length x1) : Int)) (0 : Int)) x0 x1 x2)))) : Int) (0 : Int) x0 x1 (Prod.snd (val (v52 (List.replicate (Int.toNat (↑(List.length x0) : Int)) (0 : Int)) (List.replicate (Int.toNat (↑(List.length x1) : Int)) (0 : Int)) x0 x1 x2))) false (Prod.fst (val (v52 (List.replicate (Int.toNat (↑(List.length x0) : Int)) (0 : Int)) (List.replicate (Int.toNat (↑(List.length x1) : Int)) (0 : Int)) x0 x1 x2))) x3)) (some (getL (L27_32_0 FU x2 (↑(List.length (Prod.fst (val (v52 (List.replicate (Int.toNat (↑(List.length x0) : Int)) (0 : Int)) (List.replicate (Int.toNat (↑(List.length x1) : Int)) (0 : Int)) x0 x1 x2)))) : Int) (0 : Int) x0 x1 (Prod.snd (val (v52 (List.replicate (Int.toNat (↑(List.length x0) : Int)) (0 : Int)) (List.replicate (Int.toNat (↑(List.length x1) : Int)) (0 : Int)) x0 x1 x2))) false (Prod.fst (val (v52 (List.replicate (Int.toNat (↑(List.length x0) : Int)) (0 : Int)) (List.replicate (Int.toNat (↑(List.length x1) : Int)) (0 : Int)) x0 x1 x2))) x3))) (cond (ok (getR (L27_32_0 FU x2 (↑(List.length (Prod.fst (val (v52 (List.replicate (Int.toNat (↑(List.length x0) : Int)) (0 : Int)) (List.replicate (Int.toNat (↑(List.length x1) : Int)) (0 : Int)) x0 x1 x2)))) : Int) (0 : Int) x0 x1 (Prod.snd (val (v52 (List.replicate (Int.toNat (↑(List.length x0) : Int)) (0 : Int)) (List.replicate (Int.toNat (↑(List.length x1) : Int)) (0 : Int)) x0 x1 x2))) false (Prod.fst (val (v52 (List.replicate (Int.toNat (↑(List.length x0) : Int)) (0 : Int)) (List.replicate (Int.toNat (↑(List.length x1) : Int)) (0 : Int)) x0 x1 x2))) x3))) (cond (isL (v52_1 x3 false (Prod.snd (val (v52 (List.replicate (Int.toNat (↑(List.length x0) : Int)) (0 : Int)) (List.replicate (Int.toNat (↑(List.length x1) : Int)) (0 : Int)) x0 x1 x2))) x0 x1 x2)) (some (getL (v52_1 x3 false (Prod.snd (val (v52 (List.replicate (Int.toNat (↑(List.length x0) : Int)) (0 : Int)) (List.replicate (Int.toNat (↑(List.length x1) : Int)) (0 : Int)) x0 x1 x2))) x0 x1 x2))) (cond (ok (getR (v52_1 x3 false (Prod.snd (val (v52 (List.replicate (Int.toNat (↑(List.length x0) : Int)) (0 : Int)) (List.replicate (Int.toNat (↑(List.length x1) : Int)) (0 : Int)) x0 x1 x2))) x0 x1 x2))) (some (true)) none)) none)) none) none) none) none) none)
theorem ev27 (x0 : (List Int)) (x1 : (List (List (List Int)))) (x2 : (List (List Int))) (x3 : (List Int)) : fnBody Try.prog (mkTn base o52 t52 27) (TM.evF Try.prog (mkTn base o52 t52) dOk 40) dOk 40 27 [.agg [.d 3 (.int .i64) (x0), .d 26 (.list 22 (.list 3 (.int .i64))) (x1)], .sc (.d 22 (.list 3 (.int .i64)) (x2)), .sc (.d 3 (.int .i64) (x3))] [] = (v27 x0 x1 x2 x3).bind fun r => some ([.sc (.bool (r))], []) := by
  refine Eq.trans (b := (cond (decide ((↑(List.length x0) : Int) ≤ (↑(List.length x0) : Int))) (cond (decide ((↑(List.length x0) : Int) ≤ (↑(nat_lit 2147483648) : Int))) (cond (decide ((↑(List.length x1) : Int) ≤ (↑(List.length x1) : Int))) (cond (decide ((↑(List.length x1) : Int) ≤ (↑(nat_lit 2147483648) : Int))) (cond (ok (v52 (List.replicate (Int.toNat (↑(List.length x0) : Int)) (0 : Int)) (List.replicate (Int.toNat (↑(List.length x1) : Int)) (0 : Int)) x0 x1 x2)) (cond (isL (L27_32_0 FU x2 (↑(List.length (Prod.fst (val (v52 (List.replicate (Int.toNat (↑(List.length x0) : Int)) (0 : Int)) (List.replicate (Int.toNat (↑(List.length x1) : Int)) (0 : Int)) x0 x1 x2)))) : Int) (0 : Int) x0 x1 (Prod.snd (val (v52 (List.replicate (Int.toNat (↑(List.length x0) : Int)) (0 : Int)) (List.replicate (Int.toNat (↑(List.length x1) : Int)) (0 : Int)) x0 x1 x2))) false (Prod.fst (val (v52 (List.replicate (Int.toNat (↑(List.length x0) : Int)) (0 : Int)) (List.replicate (Int.toNat (↑(List.length x1) : Int)) (0 : Int)) x0 x1 x2))) x3)) (some ([.sc (.bool (getL (L27_32_0 FU x2 (↑(List.length (Prod.fst (val (v52 (List.replicate (Int.toNat (↑(List.length x0) : Int)) (0 : Int)) (List.replicate (Int.toNat (↑(List.length x1) : Int)) (0 : Int)) x0 x1 x2)))) : Int) (0 : Int) x0 x1 (Prod.snd (val (v52 (List.replicate (Int.toNat (↑(List.length x0) : Int)) (0 : Int)) (List.replicate (Int.toNat (↑(List.length x1) : Int)) (0 : Int)) x0 x1 x2))) false (Prod.fst (val (v52 (List.replicate (Int.toNat (↑(List.length x0) : Int)) (0 : Int)) (List.replicate (Int.toNat (↑(List.length x1) : Int)) (0 : Int)) x0 x1 x2))) x3)))], [])) (cond (ok (getR (L27_32_0 FU x2 (↑(List.length (Prod.fst (val (v52 (List.replicate (Int.toNat (↑(List.length x0) : Int)) (0 : Int)) (List.replicate (Int.toNat (↑(List.length x1) : Int)) (0 : Int)) x0 x1 x2)))) : Int) (0 : Int) x0 x1 (Prod.snd (val (v52 (List.replicate (Int.toNat (↑(List.length x0) : Int)) (0 : Int)) (List.replicate (Int.toNat (↑(List.length x1) : Int)) (0 : Int)) x0 x1 x2))) false (Prod.fst (val (v52 (List.replicate (Int.toNat (↑(List.length x0) : Int)) (0 : Int)) (List.replicate (Int.toNat (↑(List.length x1) : Int)) (0 : Int)) x0 x1 x2))) x3))) (cond (isL (v52_1 x3 false (Prod.snd (val (v52 (List.replicate (Int.toNat (↑(List.length x0) : Int)) (0 : Int)) (List.replicate (Int.toNat (↑(List.length x1) : Int)) (0 : Int)) x0 x1 x2))) x0 x1 x2)) (some ([.sc (.bool (getL (v52_1 x3 false (Prod.snd (val (v52 (List.replicate (Int.toNat (↑(List.length x0) : Int)) (0 : Int)) (List.replicate (Int.toNat (↑(List.length x1) : Int)) (0 : Int)) x0 x1 x2))) x0 x1 x2)))], [])) (cond (ok (getR (v52_1 x3 false (Prod.snd (val (v52 (List.replicate (Int.toNat (↑(List.length x0) : Int)) (0 : Int)) (List.replicate (Int.toNat (↑(List.length x1) : Int)) (0 : Int)) x0 x1 x2))) x0 x1 x2))) (some ([.sc (.bool (true))], [])) none)) none)) none) none) none) none) none)) (by kernel_rfl) ?_
  unfold v27
  refine cond_bd ?_ ?_
  · refine cond_bd ?_ ?_
    · refine cond_bd ?_ ?_
      · refine cond_bd ?_ ?_
        · refine cond_bd ?_ ?_
          · refine cond_bd ?_ ?_
            · rfl
            · refine cond_bd ?_ ?_
              · refine cond_bd ?_ ?_
                · rfl
                · refine cond_bd ?_ ?_
                  · rfl
                  · rfl
              · rfl
          · rfl
        · rfl
      · rfl
    · rfl
  · rfl
noncomputable def sv27 : OrcS := fun al H => dC al fun y1 l2 => dA y1 fun y3 => dC y3 fun y4 l5 => dD 3 (.int .i64) y4 fun x0 => dC l5 fun y6 l7 => dD 26 (.list 22 (.list 3 (.int .i64))) y6 fun x1 => dE l7 <| dC l2 fun y8 l9 => dS y8 fun y10 => dD 22 (.list 3 (.int .i64)) y10 fun x2 => dC l9 fun y11 l12 => dS y11 fun y13 => dD 3 (.int .i64) y13 fun x3 => dE l12 <| dE H <|  some [(ok (v27 x0 x1 x2 x3), [.sc (.bool ((val (v27 x0 x1 x2 x3))))], [])]
theorem wv27 : NewOrc Try.prog dOk base o52 t52 (27, sv27) := by
  intro al H q hq0 rs H2 h2
  have hq : sv27 al H = some q := hq0
  clear hq0
  unfold sv27 at hq
  replace hq := dC_some hq; obtain ⟨y1, l2, rfl, hq⟩ := hq
  replace hq := dA_some hq; obtain ⟨y3, rfl, hq⟩ := hq
  replace hq := dC_some hq; obtain ⟨y4, l5, rfl, hq⟩ := hq
  replace hq := dD_some hq; obtain ⟨x0, rfl, hq⟩ := hq
  replace hq := dC_some hq; obtain ⟨y6, l7, rfl, hq⟩ := hq
  replace hq := dD_some hq; obtain ⟨x1, rfl, hq⟩ := hq
  replace hq := dE_some hq; obtain ⟨rfl, hq⟩ := hq
  replace hq := dC_some hq; obtain ⟨y8, l9, rfl, hq⟩ := hq
  replace hq := dS_some hq; obtain ⟨y10, rfl, hq⟩ := hq
  replace hq := dD_some hq; obtain ⟨x2, rfl, hq⟩ := hq
  replace hq := dC_some hq; obtain ⟨y11, l12, rfl, hq⟩ := hq
  replace hq := dS_some hq; obtain ⟨y13, rfl, hq⟩ := hq
  replace hq := dD_some hq; obtain ⟨x3, rfl, hq⟩ := hq
  replace hq := dE_some hq; obtain ⟨rfl, hq⟩ := hq
  replace hq := dE_some hq; obtain ⟨rfl, hq⟩ := hq
  cases hq
  obtain ⟨hc0, rfl, rfl⟩ := pickR_one h2
  exact ⟨41, (fn_eq (by kernel_rfl)).trans ((ev27 _ _ _ _).trans (bind_of (ok_val hc0)))⟩
noncomputable def o53 : OrcT := (27, sv27) :: o52
noncomputable def t53 : TellT := t52
noncomputable abbrev tn53 : FuncId → TAn := mkTn base o53 t53
theorem ok53 : TnOk Try.prog tn53 (mkA base) dOk := by
  have h0 : TnOk Try.prog (mkTn base o52 t52) (mkA base) dOk := ok52
  have h1 := tn_orc h0 h0 (p := (27, sv27)) wv27
  exact h1
noncomputable def L28_0_0 : Nat → Int → (List Int) → Int → Int → (List Int) → (List (List (List Int))) → Option Int
  | 0, _, _, _, _, _, _ => none
  | n + 1, x0, x1, x2, x3, x4, x5 => (cond (decide (x3 < x2)) (cond (decide ((0 : Int) ≤ x3)) (cond (decide (x3 < (↑(List.length x1) : Int))) (cond (decide (x3 < (↑(List.length x4) : Int))) (L28_0_0 n (IntKind.wrap IntKind.i64 (x0 + IntKind.wrap IntKind.i64 (List.getD x1 (Int.toNat x3) (0 : Int) * List.getD x4 (Int.toNat x3) (0 : Int)))) (x1) (x2) (IntKind.wrap IntKind.i64 (x3 + (1 : Int))) (x4) (x5)) none) none) none) (some (x0)))
theorem qL28_0_0 : type_of% @L28_0_0.eq_2 := @L28_0_0.eq_2
noncomputable def xL28_0_0 (x0 : Int) (x1 : (List Int)) (x2 : Int) (x3 : Int) (x4 : (List Int)) (x5 : (List (List (List Int)))) : Int → Ex × CS := fun r => ((.exit 0), { sl := [(2, .l 2 0), (5, .v (.sc (.int .i64 (r))))], lo := [], h := [], n0 := 0, w := false })
theorem bL28_0_0 (k : Nat) (cN : CS → Option (Ex × CS)) (cX : Ex → CS → Option (Ex × CS)) (x0 : Int) (x1 : (List Int)) (x2 : Int) (x3 : Int) (x4 : (List Int)) (x5 : (List (List (List Int)))) : loopBody Try.prog (mkTn base o53 t53 28) (TM.evF Try.prog (mkTn base o53 t53) dOk (k + 40)) dOk (k + 40) (codeAt Try.prog (tn0 28) 28 0) 0 0 { sl := [(2, .l 2 0), (5, .v (.sc (.int .i64 (x0)))), (8, .v (.sc (.d 3 (.int .i64) (x1)))), (9, .v (.sc (.int .i64 (x2)))), (10, .v (.sc (.int .i64 (x3))))], lo := [(2, [.d 3 (.int .i64) (x4), .d 26 (.list 22 (.list 3 (.int .i64))) (x5)])], h := [], n0 := 0, w := false } cN cX = (cond (decide (x3 < x2)) (cond (decide ((0 : Int) ≤ x3)) (cond (decide (x3 < (↑(List.length x1) : Int))) (cond (decide ((0 : Int) ≤ x3)) (cond (decide (x3 < (↑(List.length x4) : Int))) (cN { sl := [(2, .l 2 0), (5, .v (.sc (.int .i64 (IntKind.wrap IntKind.i64 (x0 + IntKind.wrap IntKind.i64 (List.getD x1 (Int.toNat x3) (0 : Int) * List.getD x4 (Int.toNat x3) (0 : Int))))))), (8, .v (.sc (.d 3 (.int .i64) (x1)))), (9, .v (.sc (.int .i64 (x2)))), (10, .v (.sc (.int .i64 (IntKind.wrap IntKind.i64 (x3 + (1 : Int))))))], lo := [(2, [.d 3 (.int .i64) (x4), .d 26 (.list 22 (.list 3 (.int .i64))) (x5)])], h := [], n0 := 0, w := false }) none) none) none) none) (cX (.exit 0) { sl := [(2, .l 2 0), (5, .v (.sc (.int .i64 (x0))))], lo := [], h := [], n0 := 0, w := false })) := by kernel_rfl
theorem lL28_0_0 (k m : Nat) : ∀ (n : Nat) (x0 : Int) (x1 : (List Int)) (x2 : Int) (x3 : Int) (x4 : (List Int)) (x5 : (List (List (List Int)))) (r : Int), L28_0_0 n x0 x1 x2 x3 x4 x5 = some r → loopE Try.prog (mkTn base o53 t53 28) (TM.evF Try.prog (mkTn base o53 t53) dOk (k + 40)) dOk (k + 40) (codeAt Try.prog (tn0 28) 28 0) 0 0 (n + m) { sl := [(2, .l 2 0), (5, .v (.sc (.int .i64 (x0)))), (8, .v (.sc (.d 3 (.int .i64) (x1)))), (9, .v (.sc (.int .i64 (x2)))), (10, .v (.sc (.int .i64 (x3))))], lo := [(2, [.d 3 (.int .i64) (x4), .d 26 (.list 22 (.list 3 (.int .i64))) (x5)])], h := [], n0 := 0, w := false } = some (xL28_0_0 x0 x1 x2 x3 x4 x5 r) := by
  intro n
  induction n with
  | zero => intro _ _ _ _ _ _ r h; cases h
  | succ n ih =>
    intro x0 x1 x2 x3 x4 x5 r
    rw [show n + 1 + m = n + m + 1 by omega, loop_step, bL28_0_0, qL28_0_0]
    cases (decide (x3 < x2)) with
    | true =>
      cases (decide ((0 : Int) ≤ x3)) with
      | true =>
        cases (decide (x3 < (↑(List.length x1) : Int))) with
        | true =>
          cases (decide (x3 < (↑(List.length x4) : Int))) with
          | true =>
            exact ih _ _ _ _ _ _ r
          | false =>
            intro h; cases h
        | false =>
          intro h; cases h
      | false =>
        intro h; cases h
    | false =>
      intro h; cases h; rfl
noncomputable def sL28_0_0 : TellS := fun S => dCS 0 S fun y1 y2 y3 => dSt 2 y1 fun y5 l4 => dL 2 0 y5 <| dSI 5 .i64 l4 fun x0 l6 => dSs 8 l6 fun y8 l7 => dD 3 (.int .i64) y8 fun x1 => dSI 9 .i64 l7 fun x2 l9 => dSI 10 .i64 l9 fun x3 l10 => dE l10 <| dLo 2 y2 fun y11 l12 => dC y11 fun y13 l14 => dD 3 (.int .i64) y13 fun x4 => dC l14 fun y15 l16 => dD 26 (.list 22 (.list 3 (.int .i64))) y15 fun x5 => dE l16 <| dE l12 <| dE y3 <|  some [(ok (L28_0_0 FU x0 x1 x2 x3 x4 x5), (.exit 0), { sl := [(2, .l 2 0), (5, .v (.sc (.int .i64 ((val (L28_0_0 FU x0 x1 x2 x3 x4 x5))))))], lo := [], h := [], n0 := 0, w := false })]
theorem wL28_0_0 : NewTell Try.prog dOk base o53 t53 ((28, 0), sL28_0_0) := by
  refine ⟨.loop (codeAt Try.prog (tn0 28) 28 0), 0, by kernel_rfl, ?_⟩
  intro S alts e S' h10 h2
  have h1 : sL28_0_0 S = some alts := h10
  clear h10
  unfold sL28_0_0 at h1
  replace h1 := dCS_some h1; obtain ⟨y1, y2, y3, rfl, h1⟩ := h1
  replace h1 := dSt_some h1; obtain ⟨y5, l4, rfl, h1⟩ := h1
  replace h1 := dL_some h1; obtain ⟨rfl, h1⟩ := h1
  replace h1 := dSI_some h1; obtain ⟨x0, l6, rfl, h1⟩ := h1
  replace h1 := dSs_some h1; obtain ⟨y8, l7, rfl, h1⟩ := h1
  replace h1 := dD_some h1; obtain ⟨x1, rfl, h1⟩ := h1
  replace h1 := dSI_some h1; obtain ⟨x2, l9, rfl, h1⟩ := h1
  replace h1 := dSI_some h1; obtain ⟨x3, l10, rfl, h1⟩ := h1
  replace h1 := dE_some h1; obtain ⟨rfl, h1⟩ := h1
  replace h1 := dLo_some h1; obtain ⟨y11, l12, rfl, h1⟩ := h1
  replace h1 := dC_some h1; obtain ⟨y13, l14, rfl, h1⟩ := h1
  replace h1 := dD_some h1; obtain ⟨x4, rfl, h1⟩ := h1
  replace h1 := dC_some h1; obtain ⟨y15, l16, rfl, h1⟩ := h1
  replace h1 := dD_some h1; obtain ⟨x5, rfl, h1⟩ := h1
  replace h1 := dE_some h1; obtain ⟨rfl, h1⟩ := h1
  replace h1 := dE_some h1; obtain ⟨rfl, h1⟩ := h1
  replace h1 := dE_some h1; obtain ⟨rfl, h1⟩ := h1
  cases h1
  obtain ⟨hc0, rfl, rfl⟩ := pick_one h2
  exact ⟨FU + 40, (evPiece_loop rfl).trans (lL28_0_0 FU 40 FU _ _ _ _ _ _ _ (ok_val hc0))⟩
noncomputable def o54 : OrcT := o53
noncomputable def t54 : TellT := ((28, 0), sL28_0_0) :: t53
noncomputable abbrev tn54 : FuncId → TAn := mkTn base o54 t54
theorem ok54 : TnOk Try.prog tn54 (mkA base) dOk := by
  have h0 : TnOk Try.prog (mkTn base o53 t53) (mkA base) dOk := ok53
  have h1 := tn_tell h0 h0 (p := ((28, 0), sL28_0_0)) wL28_0_0
  exact h1
noncomputable def v28 (x0 : (List Int)) (x1 : (List (List (List Int)))) (x2 : (List Int)) : Option Int := (cond (ok (L28_0_0 FU (0 : Int) x2 (↑(List.length x2) : Int) (0 : Int) x0 x1)) (some (val (L28_0_0 FU (0 : Int) x2 (↑(List.length x2) : Int) (0 : Int) x0 x1))) none)
theorem ev28 (x0 : (List Int)) (x1 : (List (List (List Int)))) (x2 : (List Int)) : fnBody Try.prog (mkTn base o54 t54 28) (TM.evF Try.prog (mkTn base o54 t54) dOk 40) dOk 40 28 [.agg [.d 3 (.int .i64) (x0), .d 26 (.list 22 (.list 3 (.int .i64))) (x1)], .sc (.d 3 (.int .i64) (x2))] [] = (v28 x0 x1 x2).bind fun r => some ([.sc (.int .i64 (r))], []) := by
  refine Eq.trans (b := (cond (ok (L28_0_0 FU (0 : Int) x2 (↑(List.length x2) : Int) (0 : Int) x0 x1)) (some ([.sc (.int .i64 (val (L28_0_0 FU (0 : Int) x2 (↑(List.length x2) : Int) (0 : Int) x0 x1)))], [])) none)) (by kernel_rfl) ?_
  unfold v28
  refine cond_bd ?_ ?_
  · rfl
  · rfl
noncomputable def sv28 : OrcS := fun al H => dC al fun y1 l2 => dA y1 fun y3 => dC y3 fun y4 l5 => dD 3 (.int .i64) y4 fun x0 => dC l5 fun y6 l7 => dD 26 (.list 22 (.list 3 (.int .i64))) y6 fun x1 => dE l7 <| dC l2 fun y8 l9 => dS y8 fun y10 => dD 3 (.int .i64) y10 fun x2 => dE l9 <| dE H <|  some [(ok (v28 x0 x1 x2), [.sc (.int .i64 ((val (v28 x0 x1 x2))))], [])]
theorem wv28 : NewOrc Try.prog dOk base o54 t54 (28, sv28) := by
  intro al H q hq0 rs H2 h2
  have hq : sv28 al H = some q := hq0
  clear hq0
  unfold sv28 at hq
  replace hq := dC_some hq; obtain ⟨y1, l2, rfl, hq⟩ := hq
  replace hq := dA_some hq; obtain ⟨y3, rfl, hq⟩ := hq
  replace hq := dC_some hq; obtain ⟨y4, l5, rfl, hq⟩ := hq
  replace hq := dD_some hq; obtain ⟨x0, rfl, hq⟩ := hq
  replace hq := dC_some hq; obtain ⟨y6, l7, rfl, hq⟩ := hq
  replace hq := dD_some hq; obtain ⟨x1, rfl, hq⟩ := hq
  replace hq := dE_some hq; obtain ⟨rfl, hq⟩ := hq
  replace hq := dC_some hq; obtain ⟨y8, l9, rfl, hq⟩ := hq
  replace hq := dS_some hq; obtain ⟨y10, rfl, hq⟩ := hq
  replace hq := dD_some hq; obtain ⟨x2, rfl, hq⟩ := hq
  replace hq := dE_some hq; obtain ⟨rfl, hq⟩ := hq
  replace hq := dE_some hq; obtain ⟨rfl, hq⟩ := hq
  cases hq
  obtain ⟨hc0, rfl, rfl⟩ := pickR_one h2
  exact ⟨41, (fn_eq (by kernel_rfl)).trans ((ev28 _ _ _).trans (bind_of (ok_val hc0)))⟩
noncomputable def o55 : OrcT := (28, sv28) :: o54
noncomputable def t55 : TellT := t54
noncomputable abbrev tn55 : FuncId → TAn := mkTn base o55 t55
theorem ok55 : TnOk Try.prog tn55 (mkA base) dOk := by
  have h0 : TnOk Try.prog (mkTn base o54 t54) (mkA base) dOk := ok54
  have h1 := tn_orc h0 h0 (p := (28, sv28)) wv28
  exact h1
noncomputable def v11 (x0 : (List Int)) (x1 : (List (List (List Int)))) (x2 : (List (List Int))) (x3 : (List Int)) : Option (Int × Int) := (cond (ok (v13 x0 x1)) (cond (!val (v13 x0 x1)) (some ((0 : Int), (1 : Int))) (cond (ok (v26 x0 x1 x2 x3)) (cond (!val (v26 x0 x1 x2 x3)) (some ((0 : Int), (1 : Int))) (cond (ok (v27 x0 x1 x2 x3)) (cond (!val (v27 x0 x1 x2 x3)) (some ((0 : Int), (17 : Int))) (cond (ok (v28 x0 x1 x3)) (cond (decide (max (0 : Int) (IntKind.wrap IntKind.i64 (val (v28 x0 x1 x3) - IntKind.wrap IntKind.i64 ((1000000 : Int) * (↑(List.length x1) : Int)))) > (1000000000000 : Int))) (some ((0 : Int), (3 : Int))) (some (max (0 : Int) (IntKind.wrap IntKind.i64 (val (v28 x0 x1 x3) - IntKind.wrap IntKind.i64 ((1000000 : Int) * (↑(List.length x1) : Int)))), (0 : Int)))) none)) none)) none)) none)
theorem ev11 (x0 : (List Int)) (x1 : (List (List (List Int)))) (x2 : (List (List Int))) (x3 : (List Int)) : fnBody Try.prog (mkTn base o55 t55 11) (TM.evF Try.prog (mkTn base o55 t55) dOk 40) dOk 40 11 [.agg [.d 3 (.int .i64) (x0), .d 26 (.list 22 (.list 3 (.int .i64))) (x1)], .sc (.d 22 (.list 3 (.int .i64)) (x2)), .sc (.d 3 (.int .i64) (x3))] [] = (v11 x0 x1 x2 x3).bind fun r => some ([.sc (.int .i64 (r.1)), .sc (.int .i64 (r.2))], []) := by
  refine Eq.trans (b := (cond (ok (v13 x0 x1)) (cond (!val (v13 x0 x1)) (some ([.sc (.int .i64 ((0 : Int))), .sc (.int .i64 ((1 : Int)))], [])) (cond (ok (v26 x0 x1 x2 x3)) (cond (!val (v26 x0 x1 x2 x3)) (some ([.sc (.int .i64 ((0 : Int))), .sc (.int .i64 ((1 : Int)))], [])) (cond (ok (v27 x0 x1 x2 x3)) (cond (!val (v27 x0 x1 x2 x3)) (some ([.sc (.int .i64 ((0 : Int))), .sc (.int .i64 ((17 : Int)))], [])) (cond (ok (v28 x0 x1 x3)) (cond (decide (max (0 : Int) (IntKind.wrap IntKind.i64 (val (v28 x0 x1 x3) - IntKind.wrap IntKind.i64 ((1000000 : Int) * (↑(List.length x1) : Int)))) > (1000000000000 : Int))) (some ([.sc (.int .i64 ((0 : Int))), .sc (.int .i64 ((3 : Int)))], [])) (some ([.sc (.int .i64 (max (0 : Int) (IntKind.wrap IntKind.i64 (val (v28 x0 x1 x3) - IntKind.wrap IntKind.i64 ((1000000 : Int) * (↑(List.length x1) : Int)))))), .sc (.int .i64 ((0 : Int)))], []))) none)) none)) none)) none)) (by kernel_rfl) ?_
  unfold v11
  refine cond_bd ?_ ?_
  · refine cond_bd ?_ ?_
    · rfl
    · refine cond_bd ?_ ?_
      · refine cond_bd ?_ ?_
        · rfl
        · refine cond_bd ?_ ?_
          · refine cond_bd ?_ ?_
            · rfl
            · refine cond_bd ?_ ?_
              · refine cond_bd ?_ ?_
                · rfl
                · rfl
              · rfl
          · rfl
      · rfl
  · rfl
noncomputable def sv11 : OrcS := fun al H => dC al fun y1 l2 => dA y1 fun y3 => dC y3 fun y4 l5 => dD 3 (.int .i64) y4 fun x0 => dC l5 fun y6 l7 => dD 26 (.list 22 (.list 3 (.int .i64))) y6 fun x1 => dE l7 <| dC l2 fun y8 l9 => dS y8 fun y10 => dD 22 (.list 3 (.int .i64)) y10 fun x2 => dC l9 fun y11 l12 => dS y11 fun y13 => dD 3 (.int .i64) y13 fun x3 => dE l12 <| dE H <|  some [(ok (v11 x0 x1 x2 x3), [.sc (.int .i64 ((val (v11 x0 x1 x2 x3)).1)), .sc (.int .i64 ((val (v11 x0 x1 x2 x3)).2))], [])]
theorem wv11 : NewOrc Try.prog dOk base o55 t55 (11, sv11) := by
  intro al H q hq0 rs H2 h2
  have hq : sv11 al H = some q := hq0
  clear hq0
  unfold sv11 at hq
  replace hq := dC_some hq; obtain ⟨y1, l2, rfl, hq⟩ := hq
  replace hq := dA_some hq; obtain ⟨y3, rfl, hq⟩ := hq
  replace hq := dC_some hq; obtain ⟨y4, l5, rfl, hq⟩ := hq
  replace hq := dD_some hq; obtain ⟨x0, rfl, hq⟩ := hq
  replace hq := dC_some hq; obtain ⟨y6, l7, rfl, hq⟩ := hq
  replace hq := dD_some hq; obtain ⟨x1, rfl, hq⟩ := hq
  replace hq := dE_some hq; obtain ⟨rfl, hq⟩ := hq
  replace hq := dC_some hq; obtain ⟨y8, l9, rfl, hq⟩ := hq
  replace hq := dS_some hq; obtain ⟨y10, rfl, hq⟩ := hq
  replace hq := dD_some hq; obtain ⟨x2, rfl, hq⟩ := hq
  replace hq := dC_some hq; obtain ⟨y11, l12, rfl, hq⟩ := hq
  replace hq := dS_some hq; obtain ⟨y13, rfl, hq⟩ := hq
  replace hq := dD_some hq; obtain ⟨x3, rfl, hq⟩ := hq
  replace hq := dE_some hq; obtain ⟨rfl, hq⟩ := hq
  replace hq := dE_some hq; obtain ⟨rfl, hq⟩ := hq
  cases hq
  obtain ⟨hc0, rfl, rfl⟩ := pickR_one h2
  exact ⟨41, (fn_eq (by kernel_rfl)).trans ((ev11 _ _ _ _).trans (bind_of (ok_val hc0)))⟩
noncomputable def o56 : OrcT := (11, sv11) :: o55
noncomputable def t56 : TellT := t55
noncomputable abbrev tn56 : FuncId → TAn := mkTn base o56 t56
theorem ok56 : TnOk Try.prog tn56 (mkA base) dOk := by
  have h0 : TnOk Try.prog (mkTn base o55 t55) (mkA base) dOk := ok55
  have h1 := tn_orc h0 h0 (p := (11, sv11)) wv11
  exact h1
noncomputable def v15 (x0 : (List Int)) (x1 : (List (List (List Int)))) (x2 : (List (List Int))) (x3 : (List Int)) (x4 : Int) : Option Bool := (cond (ok (v11 x0 x1 x2 x3)) (cond (Prod.snd (val (v11 x0 x1 x2 x3)) == (0 : Int)) (cond (ok (v31 x4 (Prod.fst (val (v11 x0 x1 x2 x3))) (1000000000000 : Int))) (some (val (v31 x4 (Prod.fst (val (v11 x0 x1 x2 x3))) (1000000000000 : Int)))) none) (some (false))) none)
theorem ev15 (x0 : (List Int)) (x1 : (List (List (List Int)))) (x2 : (List (List Int))) (x3 : (List Int)) (x4 : Int) : fnBody Try.prog (mkTn base o56 t56 15) (TM.evF Try.prog (mkTn base o56 t56) dOk 40) dOk 40 15 [.agg [.d 3 (.int .i64) (x0), .d 26 (.list 22 (.list 3 (.int .i64))) (x1)], .agg [.d 22 (.list 3 (.int .i64)) (x2), .d 3 (.int .i64) (x3), .int .i64 (x4)]] [] = (v15 x0 x1 x2 x3 x4).bind fun r => some ([.sc (.bool (r))], []) := by
  refine Eq.trans (b := (cond (ok (v11 x0 x1 x2 x3)) (cond (Prod.snd (val (v11 x0 x1 x2 x3)) == (0 : Int)) (cond (ok (v31 x4 (Prod.fst (val (v11 x0 x1 x2 x3))) (1000000000000 : Int))) (some ([.sc (.bool (val (v31 x4 (Prod.fst (val (v11 x0 x1 x2 x3))) (1000000000000 : Int))))], [])) none) (some ([.sc (.bool (false))], []))) none)) (by kernel_rfl) ?_
  unfold v15
  refine cond_bd ?_ ?_
  · refine cond_bd ?_ ?_
    · refine cond_bd ?_ ?_
      · rfl
      · rfl
    · rfl
  · rfl
noncomputable def sv15 : OrcS := fun al H => dC al fun y1 l2 => dA y1 fun y3 => dC y3 fun y4 l5 => dD 3 (.int .i64) y4 fun x0 => dC l5 fun y6 l7 => dD 26 (.list 22 (.list 3 (.int .i64))) y6 fun x1 => dE l7 <| dC l2 fun y8 l9 => dA y8 fun y10 => dC y10 fun y11 l12 => dD 22 (.list 3 (.int .i64)) y11 fun x2 => dC l12 fun y13 l14 => dD 3 (.int .i64) y13 fun x3 => dCI .i64 l14 fun x4 l15 => dE l15 <| dE l9 <| dE H <|  some [(ok (v15 x0 x1 x2 x3 x4), [.sc (.bool ((val (v15 x0 x1 x2 x3 x4))))], [])]
theorem wv15 : NewOrc Try.prog dOk base o56 t56 (15, sv15) := by
  intro al H q hq0 rs H2 h2
  have hq : sv15 al H = some q := hq0
  clear hq0
  unfold sv15 at hq
  replace hq := dC_some hq; obtain ⟨y1, l2, rfl, hq⟩ := hq
  replace hq := dA_some hq; obtain ⟨y3, rfl, hq⟩ := hq
  replace hq := dC_some hq; obtain ⟨y4, l5, rfl, hq⟩ := hq
  replace hq := dD_some hq; obtain ⟨x0, rfl, hq⟩ := hq
  replace hq := dC_some hq; obtain ⟨y6, l7, rfl, hq⟩ := hq
  replace hq := dD_some hq; obtain ⟨x1, rfl, hq⟩ := hq
  replace hq := dE_some hq; obtain ⟨rfl, hq⟩ := hq
  replace hq := dC_some hq; obtain ⟨y8, l9, rfl, hq⟩ := hq
  replace hq := dA_some hq; obtain ⟨y10, rfl, hq⟩ := hq
  replace hq := dC_some hq; obtain ⟨y11, l12, rfl, hq⟩ := hq
  replace hq := dD_some hq; obtain ⟨x2, rfl, hq⟩ := hq
  replace hq := dC_some hq; obtain ⟨y13, l14, rfl, hq⟩ := hq
  replace hq := dD_some hq; obtain ⟨x3, rfl, hq⟩ := hq
  replace hq := dCI_some hq; obtain ⟨x4, l15, rfl, hq⟩ := hq
  replace hq := dE_some hq; obtain ⟨rfl, hq⟩ := hq
  replace hq := dE_some hq; obtain ⟨rfl, hq⟩ := hq
  replace hq := dE_some hq; obtain ⟨rfl, hq⟩ := hq
  cases hq
  obtain ⟨hc0, rfl, rfl⟩ := pickR_one h2
  exact ⟨41, (fn_eq (by kernel_rfl)).trans ((ev15 _ _ _ _ _).trans (bind_of (ok_val hc0)))⟩
noncomputable def o57 : OrcT := (15, sv15) :: o56
noncomputable def t57 : TellT := t56
noncomputable abbrev tn57 : FuncId → TAn := mkTn base o57 t57
theorem ok57 : TnOk Try.prog tn57 (mkA base) dOk := by
  have h0 : TnOk Try.prog (mkTn base o56 t56) (mkA base) dOk := ok56
  have h1 := tn_orc h0 h0 (p := (15, sv15)) wv15
  exact h1
noncomputable def v25 : Option ((List Int) × (List (List (List Int)))) := (some ([(2 : Int)], [[[(0 : Int)]], [[(0 : Int)]]]))
theorem ev25 : fnBody Try.prog (mkTn base o57 t57 25) (TM.evF Try.prog (mkTn base o57 t57) dOk 40) dOk 40 25 [] [] = (v25).bind fun r => some ([.agg [.d 3 (.int .i64) (r.1 : List Int), .d 26 (.list 22 (.list 3 (.int .i64))) (r.2 : List (List (List Int)))]], []) := by
  refine Eq.trans (b := (some ([.agg [.d 3 (.int .i64) ([(2 : Int)] : List Int), .d 26 (.list 22 (.list 3 (.int .i64))) ([[[(0 : Int)]], [[(0 : Int)]]] : List (List (List Int)))]], []))) (by kernel_rfl) ?_
  unfold v25
  rfl
noncomputable def sv25 : OrcS := fun al H => dE al <| dE H <|  some [(ok (v25), [.agg [.d 3 (.int .i64) ((val (v25)).1 : List Int), .d 26 (.list 22 (.list 3 (.int .i64))) ((val (v25)).2 : List (List (List Int)))]], [])]
theorem wv25 : NewOrc Try.prog dOk base o57 t57 (25, sv25) := by
  intro al H q hq0 rs H2 h2
  have hq : sv25 al H = some q := hq0
  clear hq0
  unfold sv25 at hq
  replace hq := dE_some hq; obtain ⟨rfl, hq⟩ := hq
  replace hq := dE_some hq; obtain ⟨rfl, hq⟩ := hq
  cases hq
  obtain ⟨hc0, rfl, rfl⟩ := pickR_one h2
  exact ⟨41, (fn_eq (by kernel_rfl)).trans ((ev25 ).trans (bind_of (ok_val hc0)))⟩
noncomputable def o58 : OrcT := (25, sv25) :: o57
noncomputable def t58 : TellT := t57
noncomputable abbrev tn58 : FuncId → TAn := mkTn base o58 t58
theorem ok58 : TnOk Try.prog tn58 (mkA base) dOk := by
  have h0 : TnOk Try.prog (mkTn base o57 t57) (mkA base) dOk := ok57
  have h1 := tn_orc h0 h0 (p := (25, sv25)) wv25
  exact h1
noncomputable def v24 (x0 : Int) (x1 : Int) (x2 : Int) (x3 : Int) (x4 : Int) : Option Bool := (cond (ok (v11 (Prod.fst (val v25)) (Prod.snd (val v25)) [[x0], [x1]] [x2])) (cond (Prod.fst (val (v11 (Prod.fst (val v25)) (Prod.snd (val v25)) [[x0], [x1]] [x2])) == x3) (some (Prod.snd (val (v11 (Prod.fst (val v25)) (Prod.snd (val v25)) [[x0], [x1]] [x2])) == x4)) (some (false))) none)
theorem ev24 (x0 : Int) (x1 : Int) (x2 : Int) (x3 : Int) (x4 : Int) : fnBody Try.prog (mkTn base o58 t58 24) (TM.evF Try.prog (mkTn base o58 t58) dOk 40) dOk 40 24 [.sc (.int .i64 (x0)), .sc (.int .i64 (x1)), .sc (.int .i64 (x2)), .sc (.int .i64 (x3)), .sc (.int .i64 (x4))] [] = (v24 x0 x1 x2 x3 x4).bind fun r => some ([.sc (.bool (r))], []) := by
  refine Eq.trans (b := (cond (ok (v11 (Prod.fst (val v25)) (Prod.snd (val v25)) [[x0], [x1]] [x2])) (cond (Prod.fst (val (v11 (Prod.fst (val v25)) (Prod.snd (val v25)) [[x0], [x1]] [x2])) == x3) (some ([.sc (.bool (Prod.snd (val (v11 (Prod.fst (val v25)) (Prod.snd (val v25)) [[x0], [x1]] [x2])) == x4))], [])) (some ([.sc (.bool (false))], []))) none)) (by kernel_rfl) ?_
  unfold v24
  refine cond_bd ?_ ?_
  · refine cond_bd ?_ ?_
    · rfl
    · rfl
  · rfl
noncomputable def sv24 : OrcS := fun al H => dC al fun y1 l2 => dS y1 fun y3 => dInt .i64 y3 fun x0 => dC l2 fun y4 l5 => dS y4 fun y6 => dInt .i64 y6 fun x1 => dC l5 fun y7 l8 => dS y7 fun y9 => dInt .i64 y9 fun x2 => dC l8 fun y10 l11 => dS y10 fun y12 => dInt .i64 y12 fun x3 => dC l11 fun y13 l14 => dS y13 fun y15 => dInt .i64 y15 fun x4 => dE l14 <| dE H <|  some [(ok (v24 x0 x1 x2 x3 x4), [.sc (.bool ((val (v24 x0 x1 x2 x3 x4))))], [])]
theorem wv24 : NewOrc Try.prog dOk base o58 t58 (24, sv24) := by
  intro al H q hq0 rs H2 h2
  have hq : sv24 al H = some q := hq0
  clear hq0
  unfold sv24 at hq
  replace hq := dC_some hq; obtain ⟨y1, l2, rfl, hq⟩ := hq
  replace hq := dS_some hq; obtain ⟨y3, rfl, hq⟩ := hq
  replace hq := dInt_some hq; obtain ⟨x0, rfl, hq⟩ := hq
  replace hq := dC_some hq; obtain ⟨y4, l5, rfl, hq⟩ := hq
  replace hq := dS_some hq; obtain ⟨y6, rfl, hq⟩ := hq
  replace hq := dInt_some hq; obtain ⟨x1, rfl, hq⟩ := hq
  replace hq := dC_some hq; obtain ⟨y7, l8, rfl, hq⟩ := hq
  replace hq := dS_some hq; obtain ⟨y9, rfl, hq⟩ := hq
  replace hq := dInt_some hq; obtain ⟨x2, rfl, hq⟩ := hq
  replace hq := dC_some hq; obtain ⟨y10, l11, rfl, hq⟩ := hq
  replace hq := dS_some hq; obtain ⟨y12, rfl, hq⟩ := hq
  replace hq := dInt_some hq; obtain ⟨x3, rfl, hq⟩ := hq
  replace hq := dC_some hq; obtain ⟨y13, l14, rfl, hq⟩ := hq
  replace hq := dS_some hq; obtain ⟨y15, rfl, hq⟩ := hq
  replace hq := dInt_some hq; obtain ⟨x4, rfl, hq⟩ := hq
  replace hq := dE_some hq; obtain ⟨rfl, hq⟩ := hq
  replace hq := dE_some hq; obtain ⟨rfl, hq⟩ := hq
  cases hq
  obtain ⟨hc0, rfl, rfl⟩ := pickR_one h2
  exact ⟨41, (fn_eq (by kernel_rfl)).trans ((ev24 _ _ _ _ _).trans (bind_of (ok_val hc0)))⟩
noncomputable def o59 : OrcT := (24, sv24) :: o58
noncomputable def t59 : TellT := t58
noncomputable abbrev tn59 : FuncId → TAn := mkTn base o59 t59
theorem ok59 : TnOk Try.prog tn59 (mkA base) dOk := by
  have h0 : TnOk Try.prog (mkTn base o58 t58) (mkA base) dOk := ok58
  have h1 := tn_orc h0 h0 (p := (24, sv24)) wv24
  exact h1
noncomputable def v9 : Option Bool := (some (true))
theorem ev9 : fnBody Try.prog (mkTn base o59 t59 9) (TM.evF Try.prog (mkTn base o59 t59) dOk 40) dOk 40 9 [] [] = (v9).bind fun r => some ([.sc (.bool (r))], []) := by
  refine Eq.trans (b := (some ([.sc (.bool (true))], []))) (by kernel_rfl) ?_
  unfold v9
  rfl
noncomputable def sv9 : OrcS := fun al H => dE al <| dE H <|  some [(ok (v9), [.sc (.bool ((val (v9))))], [])]
theorem wv9 : NewOrc Try.prog dOk base o59 t59 (9, sv9) := by
  intro al H q hq0 rs H2 h2
  have hq : sv9 al H = some q := hq0
  clear hq0
  unfold sv9 at hq
  replace hq := dE_some hq; obtain ⟨rfl, hq⟩ := hq
  replace hq := dE_some hq; obtain ⟨rfl, hq⟩ := hq
  cases hq
  obtain ⟨hc0, rfl, rfl⟩ := pickR_one h2
  exact ⟨41, (fn_eq (by kernel_rfl)).trans ((ev9 ).trans (bind_of (ok_val hc0)))⟩
noncomputable def o60 : OrcT := (9, sv9) :: o59
noncomputable def t60 : TellT := t59
noncomputable abbrev tn60 : FuncId → TAn := mkTn base o60 t60
theorem ok60 : TnOk Try.prog tn60 (mkA base) dOk := by
  have h0 : TnOk Try.prog (mkTn base o59 t59) (mkA base) dOk := ok59
  have h1 := tn_orc h0 h0 (p := (9, sv9)) wv9
  exact h1
noncomputable def v20 (x0 : (List (List (List Int)))) (x1 : Int) : Option (List (List (List Int))) := (cond ((↑(List.length x0) : Int) == (0 : Int)) (some ([])) (cond (decide ((↑(List.length x0) : Int) ≠ (0 : Int))) (cond (decide ((0 : Int) ≤ Int.tmod x1 (↑(List.length x0) : Int))) (cond (decide (Int.toNat (Int.tmod x1 (↑(List.length x0) : Int)) ≤ List.length x0)) (cond (decide (List.length x0 ≤ List.length x0)) (cond (decide (List.length (List.drop (Int.toNat (Int.tmod x1 (↑(List.length x0) : Int))) (List.take (List.length x0) x0)) ≤ nat_lit 2147483648)) (cond (decide (Int.toNat (Int.tmod x1 (↑(List.length x0) : Int)) ≤ Int.toNat (Int.tmod x1 (↑(List.length x0) : Int)))) (cond (decide (List.length (List.drop (Int.toNat (Int.tmod x1 (↑(List.length x0) : Int))) (List.take (List.length x0) x0)) + List.length (List.drop (0 : Nat) (List.take (Int.toNat (Int.tmod x1 (↑(List.length x0) : Int))) x0)) ≤ nat_lit 2147483648)) (some (List.drop (Int.toNat (Int.tmod x1 (↑(List.length x0) : Int))) (List.take (List.length x0) x0) ++ List.drop (0 : Nat) (List.take (Int.toNat (Int.tmod x1 (↑(List.length x0) : Int))) x0))) none) none) none) none) none) none) none))
theorem ev20 (x0 : (List (List (List Int)))) (x1 : Int) : fnBody Try.prog (mkTn base o60 t60 20) (TM.evF Try.prog (mkTn base o60 t60) dOk 40) dOk 40 20 [.sc (.d 26 (.list 22 (.list 3 (.int .i64))) (x0)), .sc (.int .i64 (x1))] [] = (v20 x0 x1).bind fun r => some ([.sc (.d 26 (.list 22 (.list 3 (.int .i64))) (r : List (List (List Int))))], []) := by
  refine Eq.trans (b := (cond ((↑(List.length x0) : Int) == (0 : Int)) (some ([.sc (.d 26 (.list 22 (.list 3 (.int .i64))) ([] : List (List (List Int))))], [])) (cond (decide ((↑(List.length x0) : Int) ≠ (0 : Int))) (cond (decide ((0 : Int) ≤ Int.tmod x1 (↑(List.length x0) : Int))) (cond (decide (Int.toNat (Int.tmod x1 (↑(List.length x0) : Int)) ≤ List.length x0)) (cond (decide (List.length x0 ≤ List.length x0)) (cond (decide (List.length x0 ≤ List.length x0)) (cond (decide (List.length (List.drop (Int.toNat (Int.tmod x1 (↑(List.length x0) : Int))) (List.take (List.length x0) x0)) ≤ nat_lit 2147483648)) (cond (decide ((0 : Int) ≤ Int.tmod x1 (↑(List.length x0) : Int))) (cond (decide (Int.toNat (Int.tmod x1 (↑(List.length x0) : Int)) ≤ Int.toNat (Int.tmod x1 (↑(List.length x0) : Int)))) (cond (decide (Int.toNat (Int.tmod x1 (↑(List.length x0) : Int)) ≤ List.length x0)) (cond (decide (List.length (List.drop (Int.toNat (Int.tmod x1 (↑(List.length x0) : Int))) (List.take (List.length x0) x0)) + List.length (List.drop (0 : Nat) (List.take (Int.toNat (Int.tmod x1 (↑(List.length x0) : Int))) x0)) ≤ nat_lit 2147483648)) (some ([.sc (.d 26 (.list 22 (.list 3 (.int .i64))) (List.drop (Int.toNat (Int.tmod x1 (↑(List.length x0) : Int))) (List.take (List.length x0) x0) ++ List.drop (0 : Nat) (List.take (Int.toNat (Int.tmod x1 (↑(List.length x0) : Int))) x0) : List (List (List Int))))], [])) none) none) none) none) none) none) none) none) none) none))) (by kernel_rfl) ?_
  unfold v20
  cases ((↑(List.length x0) : Int) == (0 : Int)) with
  | true =>
    rfl
  | false =>
    cases (decide ((↑(List.length x0) : Int) ≠ (0 : Int))) with
    | true =>
      cases (decide ((0 : Int) ≤ Int.tmod x1 (↑(List.length x0) : Int))) with
      | true =>
        cases (decide (Int.toNat (Int.tmod x1 (↑(List.length x0) : Int)) ≤ List.length x0)) with
        | true =>
          cases (decide (List.length x0 ≤ List.length x0)) with
          | true =>
            cases (decide (List.length (List.drop (Int.toNat (Int.tmod x1 (↑(List.length x0) : Int))) (List.take (List.length x0) x0)) ≤ nat_lit 2147483648)) with
            | true =>
              cases (decide (Int.toNat (Int.tmod x1 (↑(List.length x0) : Int)) ≤ Int.toNat (Int.tmod x1 (↑(List.length x0) : Int)))) with
              | true =>
                cases (decide (List.length (List.drop (Int.toNat (Int.tmod x1 (↑(List.length x0) : Int))) (List.take (List.length x0) x0)) + List.length (List.drop (0 : Nat) (List.take (Int.toNat (Int.tmod x1 (↑(List.length x0) : Int))) x0)) ≤ nat_lit 2147483648)) with
                | true =>
                  rfl
                | false =>
                  rfl
              | false =>
                rfl
            | false =>
              rfl
          | false =>
            rfl
        | false =>
          rfl
      | false =>
        rfl
    | false =>
      rfl
noncomputable def sv20 : OrcS := fun al H => dC al fun y1 l2 => dS y1 fun y3 => dD 26 (.list 22 (.list 3 (.int .i64))) y3 fun x0 => dC l2 fun y4 l5 => dS y4 fun y6 => dInt .i64 y6 fun x1 => dE l5 <| dE H <|  some [(ok (v20 x0 x1), [.sc (.d 26 (.list 22 (.list 3 (.int .i64))) ((val (v20 x0 x1)) : List (List (List Int))))], [])]
theorem wv20 : NewOrc Try.prog dOk base o60 t60 (20, sv20) := by
  intro al H q hq0 rs H2 h2
  have hq : sv20 al H = some q := hq0
  clear hq0
  unfold sv20 at hq
  replace hq := dC_some hq; obtain ⟨y1, l2, rfl, hq⟩ := hq
  replace hq := dS_some hq; obtain ⟨y3, rfl, hq⟩ := hq
  replace hq := dD_some hq; obtain ⟨x0, rfl, hq⟩ := hq
  replace hq := dC_some hq; obtain ⟨y4, l5, rfl, hq⟩ := hq
  replace hq := dS_some hq; obtain ⟨y6, rfl, hq⟩ := hq
  replace hq := dInt_some hq; obtain ⟨x1, rfl, hq⟩ := hq
  replace hq := dE_some hq; obtain ⟨rfl, hq⟩ := hq
  replace hq := dE_some hq; obtain ⟨rfl, hq⟩ := hq
  cases hq
  obtain ⟨hc0, rfl, rfl⟩ := pickR_one h2
  exact ⟨41, (fn_eq (by kernel_rfl)).trans ((ev20 _ _).trans (bind_of (ok_val hc0)))⟩
noncomputable def o61 : OrcT := (20, sv20) :: o60
noncomputable def t61 : TellT := t60
noncomputable abbrev tn61 : FuncId → TAn := mkTn base o61 t61
theorem ok61 : TnOk Try.prog tn61 (mkA base) dOk := by
  have h0 : TnOk Try.prog (mkTn base o60 t60) (mkA base) dOk := ok60
  have h1 := tn_orc h0 h0 (p := (20, sv20)) wv20
  exact h1
noncomputable def v21 (x0 : (List (List Int))) (x1 : Int) : Option (List (List Int)) := (cond ((↑(List.length x0) : Int) == (0 : Int)) (some ([])) (cond (decide ((↑(List.length x0) : Int) ≠ (0 : Int))) (cond (decide ((0 : Int) ≤ Int.tmod x1 (↑(List.length x0) : Int))) (cond (decide (Int.toNat (Int.tmod x1 (↑(List.length x0) : Int)) ≤ List.length x0)) (cond (decide (List.length x0 ≤ List.length x0)) (cond (decide (List.length (List.drop (Int.toNat (Int.tmod x1 (↑(List.length x0) : Int))) (List.take (List.length x0) x0)) ≤ nat_lit 2147483648)) (cond (decide (Int.toNat (Int.tmod x1 (↑(List.length x0) : Int)) ≤ Int.toNat (Int.tmod x1 (↑(List.length x0) : Int)))) (cond (decide (List.length (List.drop (Int.toNat (Int.tmod x1 (↑(List.length x0) : Int))) (List.take (List.length x0) x0)) + List.length (List.drop (0 : Nat) (List.take (Int.toNat (Int.tmod x1 (↑(List.length x0) : Int))) x0)) ≤ nat_lit 2147483648)) (some (List.drop (Int.toNat (Int.tmod x1 (↑(List.length x0) : Int))) (List.take (List.length x0) x0) ++ List.drop (0 : Nat) (List.take (Int.toNat (Int.tmod x1 (↑(List.length x0) : Int))) x0))) none) none) none) none) none) none) none))
theorem ev21 (x0 : (List (List Int))) (x1 : Int) : fnBody Try.prog (mkTn base o61 t61 21) (TM.evF Try.prog (mkTn base o61 t61) dOk 40) dOk 40 21 [.sc (.d 22 (.list 3 (.int .i64)) (x0)), .sc (.int .i64 (x1))] [] = (v21 x0 x1).bind fun r => some ([.sc (.d 22 (.list 3 (.int .i64)) (r : List (List Int)))], []) := by
  refine Eq.trans (b := (cond ((↑(List.length x0) : Int) == (0 : Int)) (some ([.sc (.d 22 (.list 3 (.int .i64)) ([] : List (List Int)))], [])) (cond (decide ((↑(List.length x0) : Int) ≠ (0 : Int))) (cond (decide ((0 : Int) ≤ Int.tmod x1 (↑(List.length x0) : Int))) (cond (decide (Int.toNat (Int.tmod x1 (↑(List.length x0) : Int)) ≤ List.length x0)) (cond (decide (List.length x0 ≤ List.length x0)) (cond (decide (List.length x0 ≤ List.length x0)) (cond (decide (List.length (List.drop (Int.toNat (Int.tmod x1 (↑(List.length x0) : Int))) (List.take (List.length x0) x0)) ≤ nat_lit 2147483648)) (cond (decide ((0 : Int) ≤ Int.tmod x1 (↑(List.length x0) : Int))) (cond (decide (Int.toNat (Int.tmod x1 (↑(List.length x0) : Int)) ≤ Int.toNat (Int.tmod x1 (↑(List.length x0) : Int)))) (cond (decide (Int.toNat (Int.tmod x1 (↑(List.length x0) : Int)) ≤ List.length x0)) (cond (decide (List.length (List.drop (Int.toNat (Int.tmod x1 (↑(List.length x0) : Int))) (List.take (List.length x0) x0)) + List.length (List.drop (0 : Nat) (List.take (Int.toNat (Int.tmod x1 (↑(List.length x0) : Int))) x0)) ≤ nat_lit 2147483648)) (some ([.sc (.d 22 (.list 3 (.int .i64)) (List.drop (Int.toNat (Int.tmod x1 (↑(List.length x0) : Int))) (List.take (List.length x0) x0) ++ List.drop (0 : Nat) (List.take (Int.toNat (Int.tmod x1 (↑(List.length x0) : Int))) x0) : List (List Int)))], [])) none) none) none) none) none) none) none) none) none) none))) (by kernel_rfl) ?_
  unfold v21
  cases ((↑(List.length x0) : Int) == (0 : Int)) with
  | true =>
    rfl
  | false =>
    cases (decide ((↑(List.length x0) : Int) ≠ (0 : Int))) with
    | true =>
      cases (decide ((0 : Int) ≤ Int.tmod x1 (↑(List.length x0) : Int))) with
      | true =>
        cases (decide (Int.toNat (Int.tmod x1 (↑(List.length x0) : Int)) ≤ List.length x0)) with
        | true =>
          cases (decide (List.length x0 ≤ List.length x0)) with
          | true =>
            cases (decide (List.length (List.drop (Int.toNat (Int.tmod x1 (↑(List.length x0) : Int))) (List.take (List.length x0) x0)) ≤ nat_lit 2147483648)) with
            | true =>
              cases (decide (Int.toNat (Int.tmod x1 (↑(List.length x0) : Int)) ≤ Int.toNat (Int.tmod x1 (↑(List.length x0) : Int)))) with
              | true =>
                cases (decide (List.length (List.drop (Int.toNat (Int.tmod x1 (↑(List.length x0) : Int))) (List.take (List.length x0) x0)) + List.length (List.drop (0 : Nat) (List.take (Int.toNat (Int.tmod x1 (↑(List.length x0) : Int))) x0)) ≤ nat_lit 2147483648)) with
                | true =>
                  rfl
                | false =>
                  rfl
              | false =>
                rfl
            | false =>
              rfl
          | false =>
            rfl
        | false =>
          rfl
      | false =>
        rfl
    | false =>
      rfl
noncomputable def sv21 : OrcS := fun al H => dC al fun y1 l2 => dS y1 fun y3 => dD 22 (.list 3 (.int .i64)) y3 fun x0 => dC l2 fun y4 l5 => dS y4 fun y6 => dInt .i64 y6 fun x1 => dE l5 <| dE H <|  some [(ok (v21 x0 x1), [.sc (.d 22 (.list 3 (.int .i64)) ((val (v21 x0 x1)) : List (List Int)))], [])]
theorem wv21 : NewOrc Try.prog dOk base o61 t61 (21, sv21) := by
  intro al H q hq0 rs H2 h2
  have hq : sv21 al H = some q := hq0
  clear hq0
  unfold sv21 at hq
  replace hq := dC_some hq; obtain ⟨y1, l2, rfl, hq⟩ := hq
  replace hq := dS_some hq; obtain ⟨y3, rfl, hq⟩ := hq
  replace hq := dD_some hq; obtain ⟨x0, rfl, hq⟩ := hq
  replace hq := dC_some hq; obtain ⟨y4, l5, rfl, hq⟩ := hq
  replace hq := dS_some hq; obtain ⟨y6, rfl, hq⟩ := hq
  replace hq := dInt_some hq; obtain ⟨x1, rfl, hq⟩ := hq
  replace hq := dE_some hq; obtain ⟨rfl, hq⟩ := hq
  replace hq := dE_some hq; obtain ⟨rfl, hq⟩ := hq
  cases hq
  obtain ⟨hc0, rfl, rfl⟩ := pickR_one h2
  exact ⟨41, (fn_eq (by kernel_rfl)).trans ((ev21 _ _).trans (bind_of (ok_val hc0)))⟩
noncomputable def o62 : OrcT := (21, sv21) :: o61
noncomputable def t62 : TellT := t61
noncomputable abbrev tn62 : FuncId → TAn := mkTn base o62 t62
theorem ok62 : TnOk Try.prog tn62 (mkA base) dOk := by
  have h0 : TnOk Try.prog (mkTn base o61 t61) (mkA base) dOk := ok61
  have h1 := tn_orc h0 h0 (p := (21, sv21)) wv21
  exact h1
noncomputable def v22 (x0 : (List Int)) (x1 : Int) : Option (List Int) := (cond ((↑(List.length x0) : Int) == (0 : Int)) (some ([])) (cond (decide ((↑(List.length x0) : Int) ≠ (0 : Int))) (cond (decide ((0 : Int) ≤ Int.tmod x1 (↑(List.length x0) : Int))) (cond (decide (Int.toNat (Int.tmod x1 (↑(List.length x0) : Int)) ≤ List.length x0)) (cond (decide (List.length x0 ≤ List.length x0)) (cond (decide (List.length (List.drop (Int.toNat (Int.tmod x1 (↑(List.length x0) : Int))) (List.take (List.length x0) x0)) ≤ nat_lit 2147483648)) (cond (decide (Int.toNat (Int.tmod x1 (↑(List.length x0) : Int)) ≤ Int.toNat (Int.tmod x1 (↑(List.length x0) : Int)))) (cond (decide (List.length (List.drop (Int.toNat (Int.tmod x1 (↑(List.length x0) : Int))) (List.take (List.length x0) x0)) + List.length (List.drop (0 : Nat) (List.take (Int.toNat (Int.tmod x1 (↑(List.length x0) : Int))) x0)) ≤ nat_lit 2147483648)) (some (List.drop (Int.toNat (Int.tmod x1 (↑(List.length x0) : Int))) (List.take (List.length x0) x0) ++ List.drop (0 : Nat) (List.take (Int.toNat (Int.tmod x1 (↑(List.length x0) : Int))) x0))) none) none) none) none) none) none) none))
theorem ev22 (x0 : (List Int)) (x1 : Int) : fnBody Try.prog (mkTn base o62 t62 22) (TM.evF Try.prog (mkTn base o62 t62) dOk 40) dOk 40 22 [.sc (.d 3 (.int .i64) (x0)), .sc (.int .i64 (x1))] [] = (v22 x0 x1).bind fun r => some ([.sc (.d 3 (.int .i64) (r : List Int))], []) := by
  refine Eq.trans (b := (cond ((↑(List.length x0) : Int) == (0 : Int)) (some ([.sc (.d 3 (.int .i64) ([] : List Int))], [])) (cond (decide ((↑(List.length x0) : Int) ≠ (0 : Int))) (cond (decide ((0 : Int) ≤ Int.tmod x1 (↑(List.length x0) : Int))) (cond (decide (Int.toNat (Int.tmod x1 (↑(List.length x0) : Int)) ≤ List.length x0)) (cond (decide (List.length x0 ≤ List.length x0)) (cond (decide (List.length x0 ≤ List.length x0)) (cond (decide (List.length (List.drop (Int.toNat (Int.tmod x1 (↑(List.length x0) : Int))) (List.take (List.length x0) x0)) ≤ nat_lit 2147483648)) (cond (decide ((0 : Int) ≤ Int.tmod x1 (↑(List.length x0) : Int))) (cond (decide (Int.toNat (Int.tmod x1 (↑(List.length x0) : Int)) ≤ Int.toNat (Int.tmod x1 (↑(List.length x0) : Int)))) (cond (decide (Int.toNat (Int.tmod x1 (↑(List.length x0) : Int)) ≤ List.length x0)) (cond (decide (List.length (List.drop (Int.toNat (Int.tmod x1 (↑(List.length x0) : Int))) (List.take (List.length x0) x0)) + List.length (List.drop (0 : Nat) (List.take (Int.toNat (Int.tmod x1 (↑(List.length x0) : Int))) x0)) ≤ nat_lit 2147483648)) (some ([.sc (.d 3 (.int .i64) (List.drop (Int.toNat (Int.tmod x1 (↑(List.length x0) : Int))) (List.take (List.length x0) x0) ++ List.drop (0 : Nat) (List.take (Int.toNat (Int.tmod x1 (↑(List.length x0) : Int))) x0) : List Int))], [])) none) none) none) none) none) none) none) none) none) none))) (by kernel_rfl) ?_
  unfold v22
  cases ((↑(List.length x0) : Int) == (0 : Int)) with
  | true =>
    rfl
  | false =>
    cases (decide ((↑(List.length x0) : Int) ≠ (0 : Int))) with
    | true =>
      cases (decide ((0 : Int) ≤ Int.tmod x1 (↑(List.length x0) : Int))) with
      | true =>
        cases (decide (Int.toNat (Int.tmod x1 (↑(List.length x0) : Int)) ≤ List.length x0)) with
        | true =>
          cases (decide (List.length x0 ≤ List.length x0)) with
          | true =>
            cases (decide (List.length (List.drop (Int.toNat (Int.tmod x1 (↑(List.length x0) : Int))) (List.take (List.length x0) x0)) ≤ nat_lit 2147483648)) with
            | true =>
              cases (decide (Int.toNat (Int.tmod x1 (↑(List.length x0) : Int)) ≤ Int.toNat (Int.tmod x1 (↑(List.length x0) : Int)))) with
              | true =>
                cases (decide (List.length (List.drop (Int.toNat (Int.tmod x1 (↑(List.length x0) : Int))) (List.take (List.length x0) x0)) + List.length (List.drop (0 : Nat) (List.take (Int.toNat (Int.tmod x1 (↑(List.length x0) : Int))) x0)) ≤ nat_lit 2147483648)) with
                | true =>
                  rfl
                | false =>
                  rfl
              | false =>
                rfl
            | false =>
              rfl
          | false =>
            rfl
        | false =>
          rfl
      | false =>
        rfl
    | false =>
      rfl
noncomputable def sv22 : OrcS := fun al H => dC al fun y1 l2 => dS y1 fun y3 => dD 3 (.int .i64) y3 fun x0 => dC l2 fun y4 l5 => dS y4 fun y6 => dInt .i64 y6 fun x1 => dE l5 <| dE H <|  some [(ok (v22 x0 x1), [.sc (.d 3 (.int .i64) ((val (v22 x0 x1)) : List Int))], [])]
theorem wv22 : NewOrc Try.prog dOk base o62 t62 (22, sv22) := by
  intro al H q hq0 rs H2 h2
  have hq : sv22 al H = some q := hq0
  clear hq0
  unfold sv22 at hq
  replace hq := dC_some hq; obtain ⟨y1, l2, rfl, hq⟩ := hq
  replace hq := dS_some hq; obtain ⟨y3, rfl, hq⟩ := hq
  replace hq := dD_some hq; obtain ⟨x0, rfl, hq⟩ := hq
  replace hq := dC_some hq; obtain ⟨y4, l5, rfl, hq⟩ := hq
  replace hq := dS_some hq; obtain ⟨y6, rfl, hq⟩ := hq
  replace hq := dInt_some hq; obtain ⟨x1, rfl, hq⟩ := hq
  replace hq := dE_some hq; obtain ⟨rfl, hq⟩ := hq
  replace hq := dE_some hq; obtain ⟨rfl, hq⟩ := hq
  cases hq
  obtain ⟨hc0, rfl, rfl⟩ := pickR_one h2
  exact ⟨41, (fn_eq (by kernel_rfl)).trans ((ev22 _ _).trans (bind_of (ok_val hc0)))⟩
noncomputable def o63 : OrcT := (22, sv22) :: o62
noncomputable def t63 : TellT := t62
noncomputable abbrev tn63 : FuncId → TAn := mkTn base o63 t63
theorem ok63 : TnOk Try.prog tn63 (mkA base) dOk := by
  have h0 : TnOk Try.prog (mkTn base o62 t62) (mkA base) dOk := ok62
  have h1 := tn_orc h0 h0 (p := (22, sv22)) wv22
  exact h1
noncomputable def L6_92_0 (x0 : (List (List Int))) (x1 : (List Int)) (x2 : Int) (x3 : Bool) (x4 : Int) (x5 : Int) (x6 : Int) (x7 : Int) (x8 : Int) (x9 : (List (List Int))) (x10 : (List (List (List Int)))) (x11 : Int) (x12 : Int) (x13 : (List Int)) (x14 : (List (List Int))) (x15 : (List (List (List Int)))) : Option (Bool ⊕ ((List (List Int)) × (List (List (List Int))))) := (cond (ok (v21 x9 (IntKind.wrap IntKind.i64 x2))) (cond (decide (List.length x15 + List.length [val (v21 x9 (IntKind.wrap IntKind.i64 x2))] ≤ nat_lit 2147483648)) (cond (decide ((0 : Int) ≤ x8)) (cond (decide (x8 < (↑(List.length x0) : Int))) (cond (ok (v22 (List.getD x0 (Int.toNat x8) []) (IntKind.wrap IntKind.i64 x2))) (cond (decide (List.length x14 + List.length [val (v22 (List.getD x0 (Int.toNat x8) []) (IntKind.wrap IntKind.i64 x2))] ≤ nat_lit 2147483648)) (cond ((↑(List.length x9) : Int) != (↑(List.length (List.getD x0 (Int.toNat x8) [])) : Int)) (cond (x3) (cond (x5 == (1 : Int)) (some (.inl (x7 == (1 : Int)))) (some (.inl (false)))) (some (.inl (false)))) (some (.inr (x14 ++ [val (v22 (List.getD x0 (Int.toNat x8) []) (IntKind.wrap IntKind.i64 x2))], x15 ++ [val (v21 x9 (IntKind.wrap IntKind.i64 x2))])))) none) none) none) none) none) none)
noncomputable def xL6_92_0 (x0 : (List (List Int))) (x1 : (List Int)) (x2 : Int) (x3 : Bool) (x4 : Int) (x5 : Int) (x6 : Int) (x7 : Int) (x8 : Int) (x9 : (List (List Int))) (x10 : (List (List (List Int)))) (x11 : Int) (x12 : Int) (x13 : (List Int)) (x14 : (List (List Int))) (x15 : (List (List (List Int)))) : (Bool ⊕ ((List (List Int)) × (List (List (List Int))))) → Ex × CS := fun r => match r with | .inl a0 => (.ret, { sl := [(8, .v (.sc (.bool (a0))))], lo := [], h := [], n0 := 0, w := true }) | .inr b0 => (.normal, { sl := [(1, .v (.sc (.d 22 (.list 3 (.int .i64)) (x0)))), (2, .v (.sc (.d 3 (.int .i64) (x1)))), (3, .v (.sc (.int .u8 (x2)))), (9, .v (.sc (.bool (x3)))), (10, .v (.sc (.int .i64 (x4)))), (11, .v (.sc (.int .i64 (x5)))), (12, .v (.sc (.int .i64 (x6)))), (13, .v (.sc (.int .i64 (x7)))), (14, .l 14 0), (15, .v (.sc (.g 0))), (63, .v (.sc (.d 26 (.list 22 (.list 3 (.int .i64))) (x10)))), (64, .v (.sc (.int .i64 (x11)))), (65, .v (.sc (.int .i64 (x12))))], lo := [(14, [.d 3 (.int .i64) (x13), .g 1])], h := [.row 22 (.list 3 (.int .i64)) (b0.1 : List (List Int)), .row 26 (.list 22 (.list 3 (.int .i64))) (b0.2 : List (List (List Int)))], n0 := 0, w := false })
theorem bL6_92_0 (k : Nat) (cX : Ex → CS → Option (Ex × CS)) (x0 : (List (List Int))) (x1 : (List Int)) (x2 : Int) (x3 : Bool) (x4 : Int) (x5 : Int) (x6 : Int) (x7 : Int) (x8 : Int) (x9 : (List (List Int))) (x10 : (List (List (List Int)))) (x11 : Int) (x12 : Int) (x13 : (List Int)) (x14 : (List (List Int))) (x15 : (List (List (List Int)))) : pieceBody Try.prog (mkTn base o63 t63 6) (TM.evF Try.prog (mkTn base o63 t63) dOk (k + 40)) dOk (k + 40) (codeAt Try.prog (tn0 6) 6 92) 1 92 { sl := [(1, .v (.sc (.d 22 (.list 3 (.int .i64)) (x0)))), (2, .v (.sc (.d 3 (.int .i64) (x1)))), (3, .v (.sc (.int .u8 (x2)))), (9, .v (.sc (.bool (x3)))), (10, .v (.sc (.int .i64 (x4)))), (11, .v (.sc (.int .i64 (x5)))), (12, .v (.sc (.int .i64 (x6)))), (13, .v (.sc (.int .i64 (x7)))), (14, .l 14 0), (15, .v (.sc (.g 0))), (16, .v (.sc (.int .i64 (x8)))), (17, .v (.sc (.d 22 (.list 3 (.int .i64)) (x9)))), (63, .v (.sc (.d 26 (.list 22 (.list 3 (.int .i64))) (x10)))), (64, .v (.sc (.int .i64 (x11)))), (65, .v (.sc (.int .i64 (x12))))], lo := [(14, [.d 3 (.int .i64) (x13), .g 1])], h := [.row 22 (.list 3 (.int .i64)) (x14), .row 26 (.list 22 (.list 3 (.int .i64))) (x15)], n0 := 0, w := false } cX = (cond (ok (v21 x9 (IntKind.wrap IntKind.i64 x2))) (cond (decide (List.length x15 + List.length [val (v21 x9 (IntKind.wrap IntKind.i64 x2))] ≤ nat_lit 2147483648)) (cond (decide ((0 : Int) ≤ x8)) (cond (decide (x8 < (↑(List.length x0) : Int))) (cond (ok (v22 (List.getD x0 (Int.toNat x8) []) (IntKind.wrap IntKind.i64 x2))) (cond (decide (List.length x14 + List.length [val (v22 (List.getD x0 (Int.toNat x8) []) (IntKind.wrap IntKind.i64 x2))] ≤ nat_lit 2147483648)) (cond (decide ((0 : Int) ≤ x8)) (cond (decide (x8 < (↑(List.length x0) : Int))) (cond ((↑(List.length x9) : Int) != (↑(List.length (List.getD x0 (Int.toNat x8) [])) : Int)) (cond (x3) (cond (x5 == (1 : Int)) (cX .ret { sl := [(8, .v (.sc (.bool (x7 == (1 : Int)))))], lo := [], h := [], n0 := 0, w := true }) (cX .ret { sl := [(8, .v (.sc (.bool (false))))], lo := [], h := [], n0 := 0, w := true })) (cX .ret { sl := [(8, .v (.sc (.bool (false))))], lo := [], h := [], n0 := 0, w := true })) (cX .normal { sl := [(1, .v (.sc (.d 22 (.list 3 (.int .i64)) (x0)))), (2, .v (.sc (.d 3 (.int .i64) (x1)))), (3, .v (.sc (.int .u8 (x2)))), (9, .v (.sc (.bool (x3)))), (10, .v (.sc (.int .i64 (x4)))), (11, .v (.sc (.int .i64 (x5)))), (12, .v (.sc (.int .i64 (x6)))), (13, .v (.sc (.int .i64 (x7)))), (14, .l 14 0), (15, .v (.sc (.g 0))), (63, .v (.sc (.d 26 (.list 22 (.list 3 (.int .i64))) (x10)))), (64, .v (.sc (.int .i64 (x11)))), (65, .v (.sc (.int .i64 (x12))))], lo := [(14, [.d 3 (.int .i64) (x13), .g 1])], h := [.row 22 (.list 3 (.int .i64)) (x14 ++ [val (v22 (List.getD x0 (Int.toNat x8) []) (IntKind.wrap IntKind.i64 x2))] : List (List Int)), .row 26 (.list 22 (.list 3 (.int .i64))) (x15 ++ [val (v21 x9 (IntKind.wrap IntKind.i64 x2))] : List (List (List Int)))], n0 := 0, w := false })) none) none) none) none) none) none) none) none) := by kernel_rfl
theorem lL6_92_0 (k : Nat) (x0 : (List (List Int))) (x1 : (List Int)) (x2 : Int) (x3 : Bool) (x4 : Int) (x5 : Int) (x6 : Int) (x7 : Int) (x8 : Int) (x9 : (List (List Int))) (x10 : (List (List (List Int)))) (x11 : Int) (x12 : Int) (x13 : (List Int)) (x14 : (List (List Int))) (x15 : (List (List (List Int)))) (r : (Bool ⊕ ((List (List Int)) × (List (List (List Int)))))) : L6_92_0 x0 x1 x2 x3 x4 x5 x6 x7 x8 x9 x10 x11 x12 x13 x14 x15 = some r → pieceBody Try.prog (mkTn base o63 t63 6) (TM.evF Try.prog (mkTn base o63 t63) dOk (k + 40)) dOk (k + 40) (codeAt Try.prog (tn0 6) 6 92) 1 92 { sl := [(1, .v (.sc (.d 22 (.list 3 (.int .i64)) (x0)))), (2, .v (.sc (.d 3 (.int .i64) (x1)))), (3, .v (.sc (.int .u8 (x2)))), (9, .v (.sc (.bool (x3)))), (10, .v (.sc (.int .i64 (x4)))), (11, .v (.sc (.int .i64 (x5)))), (12, .v (.sc (.int .i64 (x6)))), (13, .v (.sc (.int .i64 (x7)))), (14, .l 14 0), (15, .v (.sc (.g 0))), (16, .v (.sc (.int .i64 (x8)))), (17, .v (.sc (.d 22 (.list 3 (.int .i64)) (x9)))), (63, .v (.sc (.d 26 (.list 22 (.list 3 (.int .i64))) (x10)))), (64, .v (.sc (.int .i64 (x11)))), (65, .v (.sc (.int .i64 (x12))))], lo := [(14, [.d 3 (.int .i64) (x13), .g 1])], h := [.row 22 (.list 3 (.int .i64)) (x14), .row 26 (.list 22 (.list 3 (.int .i64))) (x15)], n0 := 0, w := false } (fun e s => some (e, s)) = some (xL6_92_0 x0 x1 x2 x3 x4 x5 x6 x7 x8 x9 x10 x11 x12 x13 x14 x15 r) := by
  rw [bL6_92_0]
  unfold L6_92_0
  cases (ok (v21 x9 (IntKind.wrap IntKind.i64 x2))) with
  | true =>
    cases (decide (List.length x15 + List.length [val (v21 x9 (IntKind.wrap IntKind.i64 x2))] ≤ nat_lit 2147483648)) with
    | true =>
      cases (decide ((0 : Int) ≤ x8)) with
      | true =>
        cases (decide (x8 < (↑(List.length x0) : Int))) with
        | true =>
          cases (ok (v22 (List.getD x0 (Int.toNat x8) []) (IntKind.wrap IntKind.i64 x2))) with
          | true =>
            cases (decide (List.length x14 + List.length [val (v22 (List.getD x0 (Int.toNat x8) []) (IntKind.wrap IntKind.i64 x2))] ≤ nat_lit 2147483648)) with
            | true =>
              cases ((↑(List.length x9) : Int) != (↑(List.length (List.getD x0 (Int.toNat x8) [])) : Int)) with
              | true =>
                cases x3 with
                | true =>
                  cases (x5 == (1 : Int)) with
                  | true =>
                    intro h; cases h; rfl
                  | false =>
                    intro h; cases h; rfl
                | false =>
                  intro h; cases h; rfl
              | false =>
                intro h; cases h; rfl
            | false =>
              intro h; cases h
          | false =>
            intro h; cases h
        | false =>
          intro h; cases h
      | false =>
        intro h; cases h
    | false =>
      intro h; cases h
  | false =>
    intro h; cases h
noncomputable def sL6_92_0 : TellS := fun S => dCS 0 S fun y1 y2 y3 => dSs 1 y1 fun y5 l4 => dD 22 (.list 3 (.int .i64)) y5 fun x0 => dSs 2 l4 fun y7 l6 => dD 3 (.int .i64) y7 fun x1 => dSI 3 .u8 l6 fun x2 l8 => dSs 9 l8 fun y10 l9 => dBool y10 fun x3 => dSI 10 .i64 l9 fun x4 l11 => dSI 11 .i64 l11 fun x5 l12 => dSI 12 .i64 l12 fun x6 l13 => dSI 13 .i64 l13 fun x7 l14 => dSt 14 l14 fun y16 l15 => dL 14 0 y16 <| dSs 15 l15 fun y18 l17 => dG 0 y18 <| dSI 16 .i64 l17 fun x8 l19 => dSs 17 l19 fun y21 l20 => dD 22 (.list 3 (.int .i64)) y21 fun x9 => dSs 63 l20 fun y23 l22 => dD 26 (.list 22 (.list 3 (.int .i64))) y23 fun x10 => dSI 64 .i64 l22 fun x11 l24 => dSI 65 .i64 l24 fun x12 l25 => dE l25 <| dLo 14 y2 fun y26 l27 => dC y26 fun y28 l29 => dD 3 (.int .i64) y28 fun x13 => dC l29 fun y30 l31 => dG 1 y30 <| dE l31 <| dE l27 <| dHR 22 (.list 3 (.int .i64)) y3 fun x14 l32 => dHR 26 (.list 22 (.list 3 (.int .i64))) l32 fun x15 l33 => dE l33 <|  some [(isL (L6_92_0 x0 x1 x2 x3 x4 x5 x6 x7 x8 x9 x10 x11 x12 x13 x14 x15), .ret, { sl := [(8, .v (.sc (.bool ((getL (L6_92_0 x0 x1 x2 x3 x4 x5 x6 x7 x8 x9 x10 x11 x12 x13 x14 x15))))))], lo := [], h := [], n0 := 0, w := true }), (ok (getR (L6_92_0 x0 x1 x2 x3 x4 x5 x6 x7 x8 x9 x10 x11 x12 x13 x14 x15)), .normal, { sl := [(1, .v (.sc (.d 22 (.list 3 (.int .i64)) (x0)))), (2, .v (.sc (.d 3 (.int .i64) (x1)))), (3, .v (.sc (.int .u8 (x2)))), (9, .v (.sc (.bool (x3)))), (10, .v (.sc (.int .i64 (x4)))), (11, .v (.sc (.int .i64 (x5)))), (12, .v (.sc (.int .i64 (x6)))), (13, .v (.sc (.int .i64 (x7)))), (14, .l 14 0), (15, .v (.sc (.g 0))), (63, .v (.sc (.d 26 (.list 22 (.list 3 (.int .i64))) (x10)))), (64, .v (.sc (.int .i64 (x11)))), (65, .v (.sc (.int .i64 (x12))))], lo := [(14, [.d 3 (.int .i64) (x13), .g 1])], h := [.row 22 (.list 3 (.int .i64)) ((val (getR (L6_92_0 x0 x1 x2 x3 x4 x5 x6 x7 x8 x9 x10 x11 x12 x13 x14 x15))).1 : List (List Int)), .row 26 (.list 22 (.list 3 (.int .i64))) ((val (getR (L6_92_0 x0 x1 x2 x3 x4 x5 x6 x7 x8 x9 x10 x11 x12 x13 x14 x15))).2 : List (List (List Int)))], n0 := 0, w := false })]
theorem wL6_92_0 : NewTell Try.prog dOk base o63 t63 ((6, 92), sL6_92_0) := by
  refine ⟨(codeAt Try.prog (tn0 6) 6 92), 1, by kernel_rfl, ?_⟩
  intro S alts e S' h10 h2
  have h1 : sL6_92_0 S = some alts := h10
  clear h10
  unfold sL6_92_0 at h1
  replace h1 := dCS_some h1; obtain ⟨y1, y2, y3, rfl, h1⟩ := h1
  replace h1 := dSs_some h1; obtain ⟨y5, l4, rfl, h1⟩ := h1
  replace h1 := dD_some h1; obtain ⟨x0, rfl, h1⟩ := h1
  replace h1 := dSs_some h1; obtain ⟨y7, l6, rfl, h1⟩ := h1
  replace h1 := dD_some h1; obtain ⟨x1, rfl, h1⟩ := h1
  replace h1 := dSI_some h1; obtain ⟨x2, l8, rfl, h1⟩ := h1
  replace h1 := dSs_some h1; obtain ⟨y10, l9, rfl, h1⟩ := h1
  replace h1 := dBool_some h1; obtain ⟨x3, rfl, h1⟩ := h1
  replace h1 := dSI_some h1; obtain ⟨x4, l11, rfl, h1⟩ := h1
  replace h1 := dSI_some h1; obtain ⟨x5, l12, rfl, h1⟩ := h1
  replace h1 := dSI_some h1; obtain ⟨x6, l13, rfl, h1⟩ := h1
  replace h1 := dSI_some h1; obtain ⟨x7, l14, rfl, h1⟩ := h1
  replace h1 := dSt_some h1; obtain ⟨y16, l15, rfl, h1⟩ := h1
  replace h1 := dL_some h1; obtain ⟨rfl, h1⟩ := h1
  replace h1 := dSs_some h1; obtain ⟨y18, l17, rfl, h1⟩ := h1
  replace h1 := dG_some h1; obtain ⟨rfl, h1⟩ := h1
  replace h1 := dSI_some h1; obtain ⟨x8, l19, rfl, h1⟩ := h1
  replace h1 := dSs_some h1; obtain ⟨y21, l20, rfl, h1⟩ := h1
  replace h1 := dD_some h1; obtain ⟨x9, rfl, h1⟩ := h1
  replace h1 := dSs_some h1; obtain ⟨y23, l22, rfl, h1⟩ := h1
  replace h1 := dD_some h1; obtain ⟨x10, rfl, h1⟩ := h1
  replace h1 := dSI_some h1; obtain ⟨x11, l24, rfl, h1⟩ := h1
  replace h1 := dSI_some h1; obtain ⟨x12, l25, rfl, h1⟩ := h1
  replace h1 := dE_some h1; obtain ⟨rfl, h1⟩ := h1
  replace h1 := dLo_some h1; obtain ⟨y26, l27, rfl, h1⟩ := h1
  replace h1 := dC_some h1; obtain ⟨y28, l29, rfl, h1⟩ := h1
  replace h1 := dD_some h1; obtain ⟨x13, rfl, h1⟩ := h1
  replace h1 := dC_some h1; obtain ⟨y30, l31, rfl, h1⟩ := h1
  replace h1 := dG_some h1; obtain ⟨rfl, h1⟩ := h1
  replace h1 := dE_some h1; obtain ⟨rfl, h1⟩ := h1
  replace h1 := dE_some h1; obtain ⟨rfl, h1⟩ := h1
  replace h1 := dHR_some h1; obtain ⟨x14, l32, rfl, h1⟩ := h1
  replace h1 := dHR_some h1; obtain ⟨x15, l33, rfl, h1⟩ := h1
  replace h1 := dE_some h1; obtain ⟨rfl, h1⟩ := h1
  cases h1
  rcases pick_cons h2 with ⟨hc0, rfl, rfl⟩ | h2
  · exact ⟨0 + 40, (evPiece_code rfl).trans (lL6_92_0 0 _ _ _ _ _ _ _ _ _ _ _ _ _ _ _ _ _ (isL_val hc0))⟩
  obtain ⟨hc1, rfl, rfl⟩ := pick_one h2
  exact ⟨0 + 40, (evPiece_code rfl).trans (lL6_92_0 0 _ _ _ _ _ _ _ _ _ _ _ _ _ _ _ _ _ (getR_val (ok_val hc1)))⟩
noncomputable def o64 : OrcT := o63
noncomputable def t64 : TellT := ((6, 92), sL6_92_0) :: t63
noncomputable abbrev tn64 : FuncId → TAn := mkTn base o64 t64
theorem ok64 : TnOk Try.prog tn64 (mkA base) dOk := by
  have h0 : TnOk Try.prog (mkTn base o63 t63) (mkA base) dOk := ok63
  have h1 := tn_tell h0 h0 (p := ((6, 92), sL6_92_0)) wL6_92_0
  exact h1
noncomputable def L6_0_0 : Nat → (List (List Int)) → (List Int) → Int → Bool → Int → Int → Int → Int → (List (List (List Int))) → Int → Int → (List Int) → (List (List Int)) → (List (List (List Int))) → Option (Bool ⊕ ((List (List Int)) × (List (List (List Int)))))
  | 0, _, _, _, _, _, _, _, _, _, _, _, _, _, _ => none
  | n + 1, x0, x1, x2, x3, x4, x5, x6, x7, x8, x9, x10, x11, x12, x13 => (cond (decide (x10 < x9)) (cond (decide ((0 : Int) ≤ x10)) (cond (decide (x10 < (↑(List.length x8) : Int))) (cond (isL (L6_92_0 x0 x1 x2 x3 x4 x5 x6 x7 x10 (List.getD x8 (Int.toNat x10) []) x8 x9 x10 x11 x12 x13)) (some (.inl (getL (L6_92_0 x0 x1 x2 x3 x4 x5 x6 x7 x10 (List.getD x8 (Int.toNat x10) []) x8 x9 x10 x11 x12 x13)))) (cond (ok (getR (L6_92_0 x0 x1 x2 x3 x4 x5 x6 x7 x10 (List.getD x8 (Int.toNat x10) []) x8 x9 x10 x11 x12 x13))) (L6_0_0 n (x0) (x1) (x2) (x3) (x4) (x5) (x6) (x7) (x8) (x9) (IntKind.wrap IntKind.i64 (x10 + (1 : Int))) (x11) (Prod.fst (val (getR (L6_92_0 x0 x1 x2 x3 x4 x5 x6 x7 x10 (List.getD x8 (Int.toNat x10) []) x8 x9 x10 x11 x12 x13)))) (Prod.snd (val (getR (L6_92_0 x0 x1 x2 x3 x4 x5 x6 x7 x10 (List.getD x8 (Int.toNat x10) []) x8 x9 x10 x11 x12 x13))))) none)) none) none) (some (.inr (x12, x13))))
theorem qL6_0_0 : type_of% @L6_0_0.eq_2 := @L6_0_0.eq_2
noncomputable def xL6_0_0 (x0 : (List (List Int))) (x1 : (List Int)) (x2 : Int) (x3 : Bool) (x4 : Int) (x5 : Int) (x6 : Int) (x7 : Int) (x8 : (List (List (List Int)))) (x9 : Int) (x10 : Int) (x11 : (List Int)) (x12 : (List (List Int))) (x13 : (List (List (List Int)))) : (Bool ⊕ ((List (List Int)) × (List (List (List Int))))) → Ex × CS := fun r => match r with | .inl a0 => (.ret, { sl := [(8, .v (.sc (.bool (a0))))], lo := [], h := [], n0 := 0, w := true }) | .inr b0 => ((.exit 0), { sl := [(2, .v (.sc (.d 3 (.int .i64) (x1)))), (9, .v (.sc (.bool (x3)))), (10, .v (.sc (.int .i64 (x4)))), (11, .v (.sc (.int .i64 (x5)))), (12, .v (.sc (.int .i64 (x6)))), (13, .v (.sc (.int .i64 (x7)))), (14, .l 14 0), (15, .v (.sc (.g 0)))], lo := [(14, [.d 3 (.int .i64) (x11), .g 1])], h := [.row 22 (.list 3 (.int .i64)) (b0.1 : List (List Int)), .row 26 (.list 22 (.list 3 (.int .i64))) (b0.2 : List (List (List Int)))], n0 := 0, w := false })
theorem bL6_0_0 (k : Nat) (cN : CS → Option (Ex × CS)) (cX : Ex → CS → Option (Ex × CS)) (x0 : (List (List Int))) (x1 : (List Int)) (x2 : Int) (x3 : Bool) (x4 : Int) (x5 : Int) (x6 : Int) (x7 : Int) (x8 : (List (List (List Int)))) (x9 : Int) (x10 : Int) (x11 : (List Int)) (x12 : (List (List Int))) (x13 : (List (List (List Int)))) : loopBody Try.prog (mkTn base o64 t64 6) (TM.evF Try.prog (mkTn base o64 t64) dOk (k + 40)) dOk (k + 40) (codeAt Try.prog (tn0 6) 6 0) 0 0 { sl := [(1, .v (.sc (.d 22 (.list 3 (.int .i64)) (x0)))), (2, .v (.sc (.d 3 (.int .i64) (x1)))), (3, .v (.sc (.int .u8 (x2)))), (9, .v (.sc (.bool (x3)))), (10, .v (.sc (.int .i64 (x4)))), (11, .v (.sc (.int .i64 (x5)))), (12, .v (.sc (.int .i64 (x6)))), (13, .v (.sc (.int .i64 (x7)))), (14, .l 14 0), (15, .v (.sc (.g 0))), (63, .v (.sc (.d 26 (.list 22 (.list 3 (.int .i64))) (x8)))), (64, .v (.sc (.int .i64 (x9)))), (65, .v (.sc (.int .i64 (x10))))], lo := [(14, [.d 3 (.int .i64) (x11), .g 1])], h := [.row 22 (.list 3 (.int .i64)) (x12), .row 26 (.list 22 (.list 3 (.int .i64))) (x13)], n0 := 0, w := false } cN cX = (cond (decide (x10 < x9)) (cond (decide ((0 : Int) ≤ x10)) (cond (decide (x10 < (↑(List.length x8) : Int))) (cond (isL (L6_92_0 x0 x1 x2 x3 x4 x5 x6 x7 x10 (List.getD x8 (Int.toNat x10) []) x8 x9 x10 x11 x12 x13)) (cX .ret { sl := [(8, .v (.sc (.bool (getL (L6_92_0 x0 x1 x2 x3 x4 x5 x6 x7 x10 (List.getD x8 (Int.toNat x10) []) x8 x9 x10 x11 x12 x13)))))], lo := [], h := [], n0 := 0, w := true }) (cond (ok (getR (L6_92_0 x0 x1 x2 x3 x4 x5 x6 x7 x10 (List.getD x8 (Int.toNat x10) []) x8 x9 x10 x11 x12 x13))) (cN { sl := [(1, .v (.sc (.d 22 (.list 3 (.int .i64)) (x0)))), (2, .v (.sc (.d 3 (.int .i64) (x1)))), (3, .v (.sc (.int .u8 (x2)))), (9, .v (.sc (.bool (x3)))), (10, .v (.sc (.int .i64 (x4)))), (11, .v (.sc (.int .i64 (x5)))), (12, .v (.sc (.int .i64 (x6)))), (13, .v (.sc (.int .i64 (x7)))), (14, .l 14 0), (15, .v (.sc (.g 0))), (63, .v (.sc (.d 26 (.list 22 (.list 3 (.int .i64))) (x8)))), (64, .v (.sc (.int .i64 (x9)))), (65, .v (.sc (.int .i64 (IntKind.wrap IntKind.i64 (x10 + (1 : Int))))))], lo := [(14, [.d 3 (.int .i64) (x11), .g 1])], h := [.row 22 (.list 3 (.int .i64)) (Prod.fst (val (getR (L6_92_0 x0 x1 x2 x3 x4 x5 x6 x7 x10 (List.getD x8 (Int.toNat x10) []) x8 x9 x10 x11 x12 x13))) : List (List Int)), .row 26 (.list 22 (.list 3 (.int .i64))) (Prod.snd (val (getR (L6_92_0 x0 x1 x2 x3 x4 x5 x6 x7 x10 (List.getD x8 (Int.toNat x10) []) x8 x9 x10 x11 x12 x13))) : List (List (List Int)))], n0 := 0, w := false }) none)) none) none) (cX (.exit 0) { sl := [(2, .v (.sc (.d 3 (.int .i64) (x1)))), (9, .v (.sc (.bool (x3)))), (10, .v (.sc (.int .i64 (x4)))), (11, .v (.sc (.int .i64 (x5)))), (12, .v (.sc (.int .i64 (x6)))), (13, .v (.sc (.int .i64 (x7)))), (14, .l 14 0), (15, .v (.sc (.g 0)))], lo := [(14, [.d 3 (.int .i64) (x11), .g 1])], h := [.row 22 (.list 3 (.int .i64)) (x12), .row 26 (.list 22 (.list 3 (.int .i64))) (x13)], n0 := 0, w := false })) := by kernel_rfl
theorem lL6_0_0 (k m : Nat) : ∀ (n : Nat) (x0 : (List (List Int))) (x1 : (List Int)) (x2 : Int) (x3 : Bool) (x4 : Int) (x5 : Int) (x6 : Int) (x7 : Int) (x8 : (List (List (List Int)))) (x9 : Int) (x10 : Int) (x11 : (List Int)) (x12 : (List (List Int))) (x13 : (List (List (List Int)))) (r : (Bool ⊕ ((List (List Int)) × (List (List (List Int)))))), L6_0_0 n x0 x1 x2 x3 x4 x5 x6 x7 x8 x9 x10 x11 x12 x13 = some r → loopE Try.prog (mkTn base o64 t64 6) (TM.evF Try.prog (mkTn base o64 t64) dOk (k + 40)) dOk (k + 40) (codeAt Try.prog (tn0 6) 6 0) 0 0 (n + m) { sl := [(1, .v (.sc (.d 22 (.list 3 (.int .i64)) (x0)))), (2, .v (.sc (.d 3 (.int .i64) (x1)))), (3, .v (.sc (.int .u8 (x2)))), (9, .v (.sc (.bool (x3)))), (10, .v (.sc (.int .i64 (x4)))), (11, .v (.sc (.int .i64 (x5)))), (12, .v (.sc (.int .i64 (x6)))), (13, .v (.sc (.int .i64 (x7)))), (14, .l 14 0), (15, .v (.sc (.g 0))), (63, .v (.sc (.d 26 (.list 22 (.list 3 (.int .i64))) (x8)))), (64, .v (.sc (.int .i64 (x9)))), (65, .v (.sc (.int .i64 (x10))))], lo := [(14, [.d 3 (.int .i64) (x11), .g 1])], h := [.row 22 (.list 3 (.int .i64)) (x12), .row 26 (.list 22 (.list 3 (.int .i64))) (x13)], n0 := 0, w := false } = some (xL6_0_0 x0 x1 x2 x3 x4 x5 x6 x7 x8 x9 x10 x11 x12 x13 r) := by
  intro n
  induction n with
  | zero => intro _ _ _ _ _ _ _ _ _ _ _ _ _ _ r h; cases h
  | succ n ih =>
    intro x0 x1 x2 x3 x4 x5 x6 x7 x8 x9 x10 x11 x12 x13 r
    rw [show n + 1 + m = n + m + 1 by omega, loop_step, bL6_0_0, qL6_0_0]
    refine cond_go ?_ ?_
    · refine cond_go ?_ ?_
      · refine cond_go ?_ ?_
        · refine cond_go ?_ ?_
          · intro h; cases h; rfl
          · refine cond_go ?_ ?_
            · exact ih _ _ _ _ _ _ _ _ _ _ _ _ _ _ r
            · intro h; cases h
        · intro h; cases h
      · intro h; cases h
    · intro h; cases h; rfl
noncomputable def sL6_0_0 : TellS := fun S => dCS 0 S fun y1 y2 y3 => dSs 1 y1 fun y5 l4 => dD 22 (.list 3 (.int .i64)) y5 fun x0 => dSs 2 l4 fun y7 l6 => dD 3 (.int .i64) y7 fun x1 => dSI 3 .u8 l6 fun x2 l8 => dSs 9 l8 fun y10 l9 => dBool y10 fun x3 => dSI 10 .i64 l9 fun x4 l11 => dSI 11 .i64 l11 fun x5 l12 => dSI 12 .i64 l12 fun x6 l13 => dSI 13 .i64 l13 fun x7 l14 => dSt 14 l14 fun y16 l15 => dL 14 0 y16 <| dSs 15 l15 fun y18 l17 => dG 0 y18 <| dSs 63 l17 fun y20 l19 => dD 26 (.list 22 (.list 3 (.int .i64))) y20 fun x8 => dSI 64 .i64 l19 fun x9 l21 => dSI 65 .i64 l21 fun x10 l22 => dE l22 <| dLo 14 y2 fun y23 l24 => dC y23 fun y25 l26 => dD 3 (.int .i64) y25 fun x11 => dC l26 fun y27 l28 => dG 1 y27 <| dE l28 <| dE l24 <| dHR 22 (.list 3 (.int .i64)) y3 fun x12 l29 => dHR 26 (.list 22 (.list 3 (.int .i64))) l29 fun x13 l30 => dE l30 <|  some [(isL (L6_0_0 FU x0 x1 x2 x3 x4 x5 x6 x7 x8 x9 x10 x11 x12 x13), .ret, { sl := [(8, .v (.sc (.bool ((getL (L6_0_0 FU x0 x1 x2 x3 x4 x5 x6 x7 x8 x9 x10 x11 x12 x13))))))], lo := [], h := [], n0 := 0, w := true }), (ok (getR (L6_0_0 FU x0 x1 x2 x3 x4 x5 x6 x7 x8 x9 x10 x11 x12 x13)), (.exit 0), { sl := [(2, .v (.sc (.d 3 (.int .i64) (x1)))), (9, .v (.sc (.bool (x3)))), (10, .v (.sc (.int .i64 (x4)))), (11, .v (.sc (.int .i64 (x5)))), (12, .v (.sc (.int .i64 (x6)))), (13, .v (.sc (.int .i64 (x7)))), (14, .l 14 0), (15, .v (.sc (.g 0)))], lo := [(14, [.d 3 (.int .i64) (x11), .g 1])], h := [.row 22 (.list 3 (.int .i64)) ((val (getR (L6_0_0 FU x0 x1 x2 x3 x4 x5 x6 x7 x8 x9 x10 x11 x12 x13))).1 : List (List Int)), .row 26 (.list 22 (.list 3 (.int .i64))) ((val (getR (L6_0_0 FU x0 x1 x2 x3 x4 x5 x6 x7 x8 x9 x10 x11 x12 x13))).2 : List (List (List Int)))], n0 := 0, w := false })]
theorem wL6_0_0 : NewTell Try.prog dOk base o64 t64 ((6, 0), sL6_0_0) := by
  refine ⟨.loop (codeAt Try.prog (tn0 6) 6 0), 0, by kernel_rfl, ?_⟩
  intro S alts e S' h10 h2
  have h1 : sL6_0_0 S = some alts := h10
  clear h10
  unfold sL6_0_0 at h1
  replace h1 := dCS_some h1; obtain ⟨y1, y2, y3, rfl, h1⟩ := h1
  replace h1 := dSs_some h1; obtain ⟨y5, l4, rfl, h1⟩ := h1
  replace h1 := dD_some h1; obtain ⟨x0, rfl, h1⟩ := h1
  replace h1 := dSs_some h1; obtain ⟨y7, l6, rfl, h1⟩ := h1
  replace h1 := dD_some h1; obtain ⟨x1, rfl, h1⟩ := h1
  replace h1 := dSI_some h1; obtain ⟨x2, l8, rfl, h1⟩ := h1
  replace h1 := dSs_some h1; obtain ⟨y10, l9, rfl, h1⟩ := h1
  replace h1 := dBool_some h1; obtain ⟨x3, rfl, h1⟩ := h1
  replace h1 := dSI_some h1; obtain ⟨x4, l11, rfl, h1⟩ := h1
  replace h1 := dSI_some h1; obtain ⟨x5, l12, rfl, h1⟩ := h1
  replace h1 := dSI_some h1; obtain ⟨x6, l13, rfl, h1⟩ := h1
  replace h1 := dSI_some h1; obtain ⟨x7, l14, rfl, h1⟩ := h1
  replace h1 := dSt_some h1; obtain ⟨y16, l15, rfl, h1⟩ := h1
  replace h1 := dL_some h1; obtain ⟨rfl, h1⟩ := h1
  replace h1 := dSs_some h1; obtain ⟨y18, l17, rfl, h1⟩ := h1
  replace h1 := dG_some h1; obtain ⟨rfl, h1⟩ := h1
  replace h1 := dSs_some h1; obtain ⟨y20, l19, rfl, h1⟩ := h1
  replace h1 := dD_some h1; obtain ⟨x8, rfl, h1⟩ := h1
  replace h1 := dSI_some h1; obtain ⟨x9, l21, rfl, h1⟩ := h1
  replace h1 := dSI_some h1; obtain ⟨x10, l22, rfl, h1⟩ := h1
  replace h1 := dE_some h1; obtain ⟨rfl, h1⟩ := h1
  replace h1 := dLo_some h1; obtain ⟨y23, l24, rfl, h1⟩ := h1
  replace h1 := dC_some h1; obtain ⟨y25, l26, rfl, h1⟩ := h1
  replace h1 := dD_some h1; obtain ⟨x11, rfl, h1⟩ := h1
  replace h1 := dC_some h1; obtain ⟨y27, l28, rfl, h1⟩ := h1
  replace h1 := dG_some h1; obtain ⟨rfl, h1⟩ := h1
  replace h1 := dE_some h1; obtain ⟨rfl, h1⟩ := h1
  replace h1 := dE_some h1; obtain ⟨rfl, h1⟩ := h1
  replace h1 := dHR_some h1; obtain ⟨x12, l29, rfl, h1⟩ := h1
  replace h1 := dHR_some h1; obtain ⟨x13, l30, rfl, h1⟩ := h1
  replace h1 := dE_some h1; obtain ⟨rfl, h1⟩ := h1
  cases h1
  rcases pick_cons h2 with ⟨hc0, rfl, rfl⟩ | h2
  · exact ⟨FU + 40, (evPiece_loop rfl).trans (lL6_0_0 FU 40 FU _ _ _ _ _ _ _ _ _ _ _ _ _ _ _ (isL_val hc0))⟩
  obtain ⟨hc1, rfl, rfl⟩ := pick_one h2
  exact ⟨FU + 40, (evPiece_loop rfl).trans (lL6_0_0 FU 40 FU _ _ _ _ _ _ _ _ _ _ _ _ _ _ _ (getR_val (ok_val hc1)))⟩
noncomputable def o65 : OrcT := o64
noncomputable def t65 : TellT := ((6, 0), sL6_0_0) :: t64
noncomputable abbrev tn65 : FuncId → TAn := mkTn base o65 t65
theorem ok65 : TnOk Try.prog tn65 (mkA base) dOk := by
  have h0 : TnOk Try.prog (mkTn base o64 t64) (mkA base) dOk := ok64
  have h1 := tn_tell h0 h0 (p := ((6, 0), sL6_0_0)) wL6_0_0
  exact h1
noncomputable def L6_36_0 (x0 : (List (List Int))) (x1 : (List Int)) (x2 : Int) (x3 : Bool) (x4 : (List Int)) (x5 : (List (List (List Int)))) : Option Bool := (cond (ok (v11 x4 x5 x0 x1)) (cond (ok (v20 x5 (IntKind.wrap IntKind.i64 x2))) (cond (ok (v21 x0 (IntKind.wrap IntKind.i64 x2))) (cond (ok (v11 x4 (val (v20 x5 (IntKind.wrap IntKind.i64 x2))) (val (v21 x0 (IntKind.wrap IntKind.i64 x2))) x1)) (cond (isL (L6_0_0 FU x0 x1 x2 x3 (Prod.fst (val (v11 x4 x5 x0 x1))) (Prod.snd (val (v11 x4 x5 x0 x1))) (Prod.fst (val (v11 x4 (val (v20 x5 (IntKind.wrap IntKind.i64 x2))) (val (v21 x0 (IntKind.wrap IntKind.i64 x2))) x1))) (Prod.snd (val (v11 x4 (val (v20 x5 (IntKind.wrap IntKind.i64 x2))) (val (v21 x0 (IntKind.wrap IntKind.i64 x2))) x1))) x5 (↑(List.length x5) : Int) (0 : Int) x4 [] [])) (some (getL (L6_0_0 FU x0 x1 x2 x3 (Prod.fst (val (v11 x4 x5 x0 x1))) (Prod.snd (val (v11 x4 x5 x0 x1))) (Prod.fst (val (v11 x4 (val (v20 x5 (IntKind.wrap IntKind.i64 x2))) (val (v21 x0 (IntKind.wrap IntKind.i64 x2))) x1))) (Prod.snd (val (v11 x4 (val (v20 x5 (IntKind.wrap IntKind.i64 x2))) (val (v21 x0 (IntKind.wrap IntKind.i64 x2))) x1))) x5 (↑(List.length x5) : Int) (0 : Int) x4 [] []))) (cond (ok (getR (L6_0_0 FU x0 x1 x2 x3 (Prod.fst (val (v11 x4 x5 x0 x1))) (Prod.snd (val (v11 x4 x5 x0 x1))) (Prod.fst (val (v11 x4 (val (v20 x5 (IntKind.wrap IntKind.i64 x2))) (val (v21 x0 (IntKind.wrap IntKind.i64 x2))) x1))) (Prod.snd (val (v11 x4 (val (v20 x5 (IntKind.wrap IntKind.i64 x2))) (val (v21 x0 (IntKind.wrap IntKind.i64 x2))) x1))) x5 (↑(List.length x5) : Int) (0 : Int) x4 [] []))) (cond (ok (v11 x4 (Prod.snd (val (getR (L6_0_0 FU x0 x1 x2 x3 (Prod.fst (val (v11 x4 x5 x0 x1))) (Prod.snd (val (v11 x4 x5 x0 x1))) (Prod.fst (val (v11 x4 (val (v20 x5 (IntKind.wrap IntKind.i64 x2))) (val (v21 x0 (IntKind.wrap IntKind.i64 x2))) x1))) (Prod.snd (val (v11 x4 (val (v20 x5 (IntKind.wrap IntKind.i64 x2))) (val (v21 x0 (IntKind.wrap IntKind.i64 x2))) x1))) x5 (↑(List.length x5) : Int) (0 : Int) x4 [] [])))) (Prod.fst (val (getR (L6_0_0 FU x0 x1 x2 x3 (Prod.fst (val (v11 x4 x5 x0 x1))) (Prod.snd (val (v11 x4 x5 x0 x1))) (Prod.fst (val (v11 x4 (val (v20 x5 (IntKind.wrap IntKind.i64 x2))) (val (v21 x0 (IntKind.wrap IntKind.i64 x2))) x1))) (Prod.snd (val (v11 x4 (val (v20 x5 (IntKind.wrap IntKind.i64 x2))) (val (v21 x0 (IntKind.wrap IntKind.i64 x2))) x1))) x5 (↑(List.length x5) : Int) (0 : Int) x4 [] [])))) x1)) (cond (x3) (cond (Prod.fst (val (v11 x4 x5 x0 x1)) == Prod.fst (val (v11 x4 (val (v20 x5 (IntKind.wrap IntKind.i64 x2))) (val (v21 x0 (IntKind.wrap IntKind.i64 x2))) x1))) (cond (Prod.snd (val (v11 x4 x5 x0 x1)) == Prod.snd (val (v11 x4 (val (v20 x5 (IntKind.wrap IntKind.i64 x2))) (val (v21 x0 (IntKind.wrap IntKind.i64 x2))) x1))) (cond (Prod.fst (val (v11 x4 x5 x0 x1)) == Prod.fst (val (v11 x4 (Prod.snd (val (getR (L6_0_0 FU x0 x1 x2 x3 (Prod.fst (val (v11 x4 x5 x0 x1))) (Prod.snd (val (v11 x4 x5 x0 x1))) (Prod.fst (val (v11 x4 (val (v20 x5 (IntKind.wrap IntKind.i64 x2))) (val (v21 x0 (IntKind.wrap IntKind.i64 x2))) x1))) (Prod.snd (val (v11 x4 (val (v20 x5 (IntKind.wrap IntKind.i64 x2))) (val (v21 x0 (IntKind.wrap IntKind.i64 x2))) x1))) x5 (↑(List.length x5) : Int) (0 : Int) x4 [] [])))) (Prod.fst (val (getR (L6_0_0 FU x0 x1 x2 x3 (Prod.fst (val (v11 x4 x5 x0 x1))) (Prod.snd (val (v11 x4 x5 x0 x1))) (Prod.fst (val (v11 x4 (val (v20 x5 (IntKind.wrap IntKind.i64 x2))) (val (v21 x0 (IntKind.wrap IntKind.i64 x2))) x1))) (Prod.snd (val (v11 x4 (val (v20 x5 (IntKind.wrap IntKind.i64 x2))) (val (v21 x0 (IntKind.wrap IntKind.i64 x2))) x1))) x5 (↑(List.length x5) : Int) (0 : Int) x4 [] [])))) x1))) (some (Prod.snd (val (v11 x4 x5 x0 x1)) == Prod.snd (val (v11 x4 (Prod.snd (val (getR (L6_0_0 FU x0 x1 x2 x3 (Prod.fst (val (v11 x4 x5 x0 x1))) (Prod.snd (val (v11 x4 x5 x0 x1))) (Prod.fst (val (v11 x4 (val (v20 x5 (IntKind.wrap IntKind.i64 x2))) (val (v21 x0 (IntKind.wrap IntKind.i64 x2))) x1))) (Prod.snd (val (v11 x4 (val (v20 x5 (IntKind.wrap IntKind.i64 x2))) (val (v21 x0 (IntKind.wrap IntKind.i64 x2))) x1))) x5 (↑(List.length x5) : Int) (0 : Int) x4 [] [])))) (Prod.fst (val (getR (L6_0_0 FU x0 x1 x2 x3 (Prod.fst (val (v11 x4 x5 x0 x1))) (Prod.snd (val (v11 x4 x5 x0 x1))) (Prod.fst (val (v11 x4 (val (v20 x5 (IntKind.wrap IntKind.i64 x2))) (val (v21 x0 (IntKind.wrap IntKind.i64 x2))) x1))) (Prod.snd (val (v11 x4 (val (v20 x5 (IntKind.wrap IntKind.i64 x2))) (val (v21 x0 (IntKind.wrap IntKind.i64 x2))) x1))) x5 (↑(List.length x5) : Int) (0 : Int) x4 [] [])))) x1)))) (some (false))) (some (false))) (some (false))) (some (false))) none) none)) none) none) none) none)
noncomputable def xL6_36_0 (x0 : (List (List Int))) (x1 : (List Int)) (x2 : Int) (x3 : Bool) (x4 : (List Int)) (x5 : (List (List (List Int)))) : Bool → Ex × CS := fun r => (.ret, { sl := [(8, .v (.sc (.bool (r))))], lo := [], h := [], n0 := 0, w := true })
theorem bL6_36_0 (k : Nat) (cX : Ex → CS → Option (Ex × CS)) (x0 : (List (List Int))) (x1 : (List Int)) (x2 : Int) (x3 : Bool) (x4 : (List Int)) (x5 : (List (List (List Int)))) : pieceBody Try.prog (mkTn base o65 t65 6) (TM.evF Try.prog (mkTn base o65 t65) dOk (k + 40)) dOk (k + 40) (codeAt Try.prog (tn0 6) 6 36) 0 36 { sl := [(1, .v (.sc (.d 22 (.list 3 (.int .i64)) (x0)))), (2, .v (.sc (.d 3 (.int .i64) (x1)))), (3, .v (.sc (.int .u8 (x2)))), (4, .l 4 0), (9, .v (.sc (.bool (x3))))], lo := [(4, [.d 3 (.int .i64) (x4), .d 26 (.list 22 (.list 3 (.int .i64))) (x5)])], h := [], n0 := 0, w := false } cX = (cond (ok (v11 x4 x5 x0 x1)) (cond (ok (v20 x5 (IntKind.wrap IntKind.i64 x2))) (cond (ok (v21 x0 (IntKind.wrap IntKind.i64 x2))) (cond (ok (v11 x4 (val (v20 x5 (IntKind.wrap IntKind.i64 x2))) (val (v21 x0 (IntKind.wrap IntKind.i64 x2))) x1)) (cond (isL (L6_0_0 FU x0 x1 x2 x3 (Prod.fst (val (v11 x4 x5 x0 x1))) (Prod.snd (val (v11 x4 x5 x0 x1))) (Prod.fst (val (v11 x4 (val (v20 x5 (IntKind.wrap IntKind.i64 x2))) (val (v21 x0 (IntKind.wrap IntKind.i64 x2))) x1))) (Prod.snd (val (v11 x4 (val (v20 x5 (IntKind.wrap IntKind.i64 x2))) (val (v21 x0 (IntKind.wrap IntKind.i64 x2))) x1))) x5 (↑(List.length x5) : Int) (0 : Int) x4 [] [])) (cX .ret { sl := [(8, .v (.sc (.bool (getL (L6_0_0 FU x0 x1 x2 x3 (Prod.fst (val (v11 x4 x5 x0 x1))) (Prod.snd (val (v11 x4 x5 x0 x1))) (Prod.fst (val (v11 x4 (val (v20 x5 (IntKind.wrap IntKind.i64 x2))) (val (v21 x0 (IntKind.wrap IntKind.i64 x2))) x1))) (Prod.snd (val (v11 x4 (val (v20 x5 (IntKind.wrap IntKind.i64 x2))) (val (v21 x0 (IntKind.wrap IntKind.i64 x2))) x1))) x5 (↑(List.length x5) : Int) (0 : Int) x4 [] [])))))], lo := [], h := [], n0 := 0, w := true }) (cond (ok (getR (L6_0_0 FU x0 x1 x2 x3 (Prod.fst (val (v11 x4 x5 x0 x1))) (Prod.snd (val (v11 x4 x5 x0 x1))) (Prod.fst (val (v11 x4 (val (v20 x5 (IntKind.wrap IntKind.i64 x2))) (val (v21 x0 (IntKind.wrap IntKind.i64 x2))) x1))) (Prod.snd (val (v11 x4 (val (v20 x5 (IntKind.wrap IntKind.i64 x2))) (val (v21 x0 (IntKind.wrap IntKind.i64 x2))) x1))) x5 (↑(List.length x5) : Int) (0 : Int) x4 [] []))) (cond (ok (v11 x4 (Prod.snd (val (getR (L6_0_0 FU x0 x1 x2 x3 (Prod.fst (val (v11 x4 x5 x0 x1))) (Prod.snd (val (v11 x4 x5 x0 x1))) (Prod.fst (val (v11 x4 (val (v20 x5 (IntKind.wrap IntKind.i64 x2))) (val (v21 x0 (IntKind.wrap IntKind.i64 x2))) x1))) (Prod.snd (val (v11 x4 (val (v20 x5 (IntKind.wrap IntKind.i64 x2))) (val (v21 x0 (IntKind.wrap IntKind.i64 x2))) x1))) x5 (↑(List.length x5) : Int) (0 : Int) x4 [] [])))) (Prod.fst (val (getR (L6_0_0 FU x0 x1 x2 x3 (Prod.fst (val (v11 x4 x5 x0 x1))) (Prod.snd (val (v11 x4 x5 x0 x1))) (Prod.fst (val (v11 x4 (val (v20 x5 (IntKind.wrap IntKind.i64 x2))) (val (v21 x0 (IntKind.wrap IntKind.i64 x2))) x1))) (Prod.snd (val (v11 x4 (val (v20 x5 (IntKind.wrap IntKind.i64 x2))) (val (v21 x0 (IntKind.wrap IntKind.i64 x2))) x1))) x5 (↑(List.length x5) : Int) (0 : Int) x4 [] [])))) x1)) (cond (x3) (cond (Prod.fst (val (v11 x4 x5 x0 x1)) == Prod.fst (val (v11 x4 (val (v20 x5 (IntKind.wrap IntKind.i64 x2))) (val (v21 x0 (IntKind.wrap IntKind.i64 x2))) x1))) (cond (Prod.snd (val (v11 x4 x5 x0 x1)) == Prod.snd (val (v11 x4 (val (v20 x5 (IntKind.wrap IntKind.i64 x2))) (val (v21 x0 (IntKind.wrap IntKind.i64 x2))) x1))) (cond (Prod.fst (val (v11 x4 x5 x0 x1)) == Prod.fst (val (v11 x4 (Prod.snd (val (getR (L6_0_0 FU x0 x1 x2 x3 (Prod.fst (val (v11 x4 x5 x0 x1))) (Prod.snd (val (v11 x4 x5 x0 x1))) (Prod.fst (val (v11 x4 (val (v20 x5 (IntKind.wrap IntKind.i64 x2))) (val (v21 x0 (IntKind.wrap IntKind.i64 x2))) x1))) (Prod.snd (val (v11 x4 (val (v20 x5 (IntKind.wrap IntKind.i64 x2))) (val (v21 x0 (IntKind.wrap IntKind.i64 x2))) x1))) x5 (↑(List.length x5) : Int) (0 : Int) x4 [] [])))) (Prod.fst (val (getR (L6_0_0 FU x0 x1 x2 x3 (Prod.fst (val (v11 x4 x5 x0 x1))) (Prod.snd (val (v11 x4 x5 x0 x1))) (Prod.fst (val (v11 x4 (val (v20 x5 (IntKind.wrap IntKind.i64 x2))) (val (v21 x0 (IntKind.wrap IntKind.i64 x2))) x1))) (Prod.snd (val (v11 x4 (val (v20 x5 (IntKind.wrap IntKind.i64 x2))) (val (v21 x0 (IntKind.wrap IntKind.i64 x2))) x1))) x5 (↑(List.length x5) : Int) (0 : Int) x4 [] [])))) x1))) (cX .ret { sl := [(8, .v (.sc (.bool (Prod.snd (val (v11 x4 x5 x0 x1)) == Prod.snd (val (v11 x4 (Prod.snd (val (getR (L6_0_0 FU x0 x1 x2 x3 (Prod.fst (val (v11 x4 x5 x0 x1))) (Prod.snd (val (v11 x4 x5 x0 x1))) (Prod.fst (val (v11 x4 (val (v20 x5 (IntKind.wrap IntKind.i64 x2))) (val (v21 x0 (IntKind.wrap IntKind.i64 x2))) x1))) (Prod.snd (val (v11 x4 (val (v20 x5 (IntKind.wrap IntKind.i64 x2))) (val (v21 x0 (IntKind.wrap IntKind.i64 x2))) x1))) x5 (↑(List.length x5) : Int) (0 : Int) x4 [] [])))) (Prod.fst (val (getR (L6_0_0 FU x0 x1 x2 x3 (Prod.fst (val (v11 x4 x5 x0 x1))) (Prod.snd (val (v11 x4 x5 x0 x1))) (Prod.fst (val (v11 x4 (val (v20 x5 (IntKind.wrap IntKind.i64 x2))) (val (v21 x0 (IntKind.wrap IntKind.i64 x2))) x1))) (Prod.snd (val (v11 x4 (val (v20 x5 (IntKind.wrap IntKind.i64 x2))) (val (v21 x0 (IntKind.wrap IntKind.i64 x2))) x1))) x5 (↑(List.length x5) : Int) (0 : Int) x4 [] [])))) x1))))))], lo := [], h := [], n0 := 0, w := true }) (cX .ret { sl := [(8, .v (.sc (.bool (false))))], lo := [], h := [], n0 := 0, w := true })) (cX .ret { sl := [(8, .v (.sc (.bool (false))))], lo := [], h := [], n0 := 0, w := true })) (cX .ret { sl := [(8, .v (.sc (.bool (false))))], lo := [], h := [], n0 := 0, w := true })) (cX .ret { sl := [(8, .v (.sc (.bool (false))))], lo := [], h := [], n0 := 0, w := true })) none) none)) none) none) none) none) := by kernel_rfl
theorem lL6_36_0 (k : Nat) (x0 : (List (List Int))) (x1 : (List Int)) (x2 : Int) (x3 : Bool) (x4 : (List Int)) (x5 : (List (List (List Int)))) (r : Bool) : L6_36_0 x0 x1 x2 x3 x4 x5 = some r → pieceBody Try.prog (mkTn base o65 t65 6) (TM.evF Try.prog (mkTn base o65 t65) dOk (k + 40)) dOk (k + 40) (codeAt Try.prog (tn0 6) 6 36) 0 36 { sl := [(1, .v (.sc (.d 22 (.list 3 (.int .i64)) (x0)))), (2, .v (.sc (.d 3 (.int .i64) (x1)))), (3, .v (.sc (.int .u8 (x2)))), (4, .l 4 0), (9, .v (.sc (.bool (x3))))], lo := [(4, [.d 3 (.int .i64) (x4), .d 26 (.list 22 (.list 3 (.int .i64))) (x5)])], h := [], n0 := 0, w := false } (fun e s => some (e, s)) = some (xL6_36_0 x0 x1 x2 x3 x4 x5 r) := by
  rw [bL6_36_0]
  unfold L6_36_0
  refine cond_go ?_ ?_
  · refine cond_go ?_ ?_
    · refine cond_go ?_ ?_
      · refine cond_go ?_ ?_
        · refine cond_go ?_ ?_
          · intro h; cases h; rfl
          · refine cond_go ?_ ?_
            · refine cond_go ?_ ?_
              · refine cond_go ?_ ?_
                · refine cond_go ?_ ?_
                  · refine cond_go ?_ ?_
                    · refine cond_go ?_ ?_
                      · intro h; cases h; rfl
                      · intro h; cases h; rfl
                    · intro h; cases h; rfl
                  · intro h; cases h; rfl
                · intro h; cases h; rfl
              · intro h; cases h
            · intro h; cases h
        · intro h; cases h
      · intro h; cases h
    · intro h; cases h
  · intro h; cases h
noncomputable def sL6_36_0 : TellS := fun S => dCS 0 S fun y1 y2 y3 => dSs 1 y1 fun y5 l4 => dD 22 (.list 3 (.int .i64)) y5 fun x0 => dSs 2 l4 fun y7 l6 => dD 3 (.int .i64) y7 fun x1 => dSI 3 .u8 l6 fun x2 l8 => dSt 4 l8 fun y10 l9 => dL 4 0 y10 <| dSs 9 l9 fun y12 l11 => dBool y12 fun x3 => dE l11 <| dLo 4 y2 fun y13 l14 => dC y13 fun y15 l16 => dD 3 (.int .i64) y15 fun x4 => dC l16 fun y17 l18 => dD 26 (.list 22 (.list 3 (.int .i64))) y17 fun x5 => dE l18 <| dE l14 <| dE y3 <|  some [(ok (L6_36_0 x0 x1 x2 x3 x4 x5), .ret, { sl := [(8, .v (.sc (.bool ((val (L6_36_0 x0 x1 x2 x3 x4 x5))))))], lo := [], h := [], n0 := 0, w := true })]
theorem wL6_36_0 : NewTell Try.prog dOk base o65 t65 ((6, 36), sL6_36_0) := by
  refine ⟨(codeAt Try.prog (tn0 6) 6 36), 0, by kernel_rfl, ?_⟩
  intro S alts e S' h10 h2
  have h1 : sL6_36_0 S = some alts := h10
  clear h10
  unfold sL6_36_0 at h1
  replace h1 := dCS_some h1; obtain ⟨y1, y2, y3, rfl, h1⟩ := h1
  replace h1 := dSs_some h1; obtain ⟨y5, l4, rfl, h1⟩ := h1
  replace h1 := dD_some h1; obtain ⟨x0, rfl, h1⟩ := h1
  replace h1 := dSs_some h1; obtain ⟨y7, l6, rfl, h1⟩ := h1
  replace h1 := dD_some h1; obtain ⟨x1, rfl, h1⟩ := h1
  replace h1 := dSI_some h1; obtain ⟨x2, l8, rfl, h1⟩ := h1
  replace h1 := dSt_some h1; obtain ⟨y10, l9, rfl, h1⟩ := h1
  replace h1 := dL_some h1; obtain ⟨rfl, h1⟩ := h1
  replace h1 := dSs_some h1; obtain ⟨y12, l11, rfl, h1⟩ := h1
  replace h1 := dBool_some h1; obtain ⟨x3, rfl, h1⟩ := h1
  replace h1 := dE_some h1; obtain ⟨rfl, h1⟩ := h1
  replace h1 := dLo_some h1; obtain ⟨y13, l14, rfl, h1⟩ := h1
  replace h1 := dC_some h1; obtain ⟨y15, l16, rfl, h1⟩ := h1
  replace h1 := dD_some h1; obtain ⟨x4, rfl, h1⟩ := h1
  replace h1 := dC_some h1; obtain ⟨y17, l18, rfl, h1⟩ := h1
  replace h1 := dD_some h1; obtain ⟨x5, rfl, h1⟩ := h1
  replace h1 := dE_some h1; obtain ⟨rfl, h1⟩ := h1
  replace h1 := dE_some h1; obtain ⟨rfl, h1⟩ := h1
  replace h1 := dE_some h1; obtain ⟨rfl, h1⟩ := h1
  cases h1
  obtain ⟨hc0, rfl, rfl⟩ := pick_one h2
  exact ⟨0 + 40, (evPiece_code rfl).trans (lL6_36_0 0 _ _ _ _ _ _ _ (ok_val hc0))⟩
noncomputable def o66 : OrcT := o65
noncomputable def t66 : TellT := ((6, 36), sL6_36_0) :: t65
noncomputable abbrev tn66 : FuncId → TAn := mkTn base o66 t66
theorem ok66 : TnOk Try.prog tn66 (mkA base) dOk := by
  have h0 : TnOk Try.prog (mkTn base o65 t65) (mkA base) dOk := ok65
  have h1 := tn_tell h0 h0 (p := ((6, 36), sL6_36_0)) wL6_36_0
  exact h1
end Go.Proofs.Ytajodcnnadbjkaa
