/- What some functions and loops come to: printed and checked. Written by a program of ours. -/
import Derived.Test.YtchgjjgdgbecmaaG0
set_option linter.all false
set_option linter.constructorNameAsVariable false
set_option linter.unnecessarySimpa false
set_option linter.unusedSimpArgs false
set_option linter.unusedVariables false
set_option maxRecDepth 1000000
set_option linter.unusedVariables false
set_option maxHeartbeats 4000000
namespace Go.Proofs.Ytchgjjgdgbecmaa
open Go Go.AM Go.TM Go.Proofs
/-- disk.Write -/
def v12 (x0 : Int) (x1 : (List Int)) (x2 : (List (Int × (List Int)))) (x3 : Int) (x4 : (List Int)) : Option (Int × (List Int) × (List (Int × (List Int))) × Int) := (cond (ok (v24 x0 x1 x2)) (cond (!val (v24 x0 x1 x2)) (some ((0 : Int), [], [], (1 : Int))) (cond (ok (v30 x0 x1 x2 x3)) (cond (!val (v30 x0 x1 x2 x3)) (some ((0 : Int), [], [], (1 : Int))) (cond ((↑(List.length x4) : Int) != x0) (some ((0 : Int), [], [], (1 : Int))) (cond (decide ((↑(List.length x2) : Int) ≥ (64 : Int))) (some ((0 : Int), [], [], (10 : Int))) (cond (decide (List.length x1 ≤ nat_lit 2147483648)) (cond (decide (List.length x2 ≤ nat_lit 2147483648)) (cond (decide (List.length x2 + List.length [(x3, x4)] ≤ nat_lit 2147483648)) (cond (ok (L12_8_0 FU (↑(List.length (x2 ++ [(x3, x4)])) : Int) (0 : Int) (0 : Int) x0 (x2 ++ [(x3, x4)]) x1 [] [] [])) (some (x0, x1, val (L12_8_0 FU (↑(List.length (x2 ++ [(x3, x4)])) : Int) (0 : Int) (0 : Int) x0 (x2 ++ [(x3, x4)]) x1 [] [] []), (0 : Int))) none) none) none) none)))) none)) none)
theorem ev12 (x0 : Int) (x1 : (List Int)) (x2 : (List (Int × (List Int)))) (x3 : Int) (x4 : (List Int)) : fnBody Try.prog (mkTn base o12 t12 12) (TM.evF Try.prog (mkTn base o12 t12) dOk 40) dOk 40 12 [.agg [.int .i64 (x0), .d 5 (.int .u8) (x1), .d 44 (.pair (.int .i64) (.list 5 (.int .u8))) (x2)], .sc (.int .i64 (x3)), .sc (.d 5 (.int .u8) (x4))] [] = (v12 x0 x1 x2 x3 x4).bind fun r => some ([.agg [.int .i64 (r.1), .d 5 (.int .u8) (r.2.1), .d 44 (.pair (.int .i64) (.list 5 (.int .u8))) (r.2.2.1)], .sc (.int .i64 (r.2.2.2))], []) := by
  have h : fnBody Try.prog (mkTn base o12 t12 12) (TM.evF Try.prog (mkTn base o12 t12) dOk 40) dOk 40 12 [.agg [.int .i64 (x0), .d 5 (.int .u8) (x1), .d 44 (.pair (.int .i64) (.list 5 (.int .u8))) (x2)], .sc (.int .i64 (x3)), .sc (.d 5 (.int .u8) (x4))] [] = (cond (ok (v24 x0 x1 x2)) (cond (!val (v24 x0 x1 x2)) (some ([.agg [.int .i64 ((0 : Int)), .d 5 (.int .u8) ([]), .d 44 (.pair (.int .i64) (.list 5 (.int .u8))) ([])], .sc (.int .i64 ((1 : Int)))], [])) (cond (ok (v30 x0 x1 x2 x3)) (cond (!val (v30 x0 x1 x2 x3)) (some ([.agg [.int .i64 ((0 : Int)), .d 5 (.int .u8) ([]), .d 44 (.pair (.int .i64) (.list 5 (.int .u8))) ([])], .sc (.int .i64 ((1 : Int)))], [])) (cond ((↑(List.length x4) : Int) != x0) (some ([.agg [.int .i64 ((0 : Int)), .d 5 (.int .u8) ([]), .d 44 (.pair (.int .i64) (.list 5 (.int .u8))) ([])], .sc (.int .i64 ((1 : Int)))], [])) (cond (decide ((↑(List.length x2) : Int) ≥ (64 : Int))) (some ([.agg [.int .i64 ((0 : Int)), .d 5 (.int .u8) ([]), .d 44 (.pair (.int .i64) (.list 5 (.int .u8))) ([])], .sc (.int .i64 ((10 : Int)))], [])) (cond (decide (List.length x1 ≤ nat_lit 2147483648)) (cond (decide (List.length x2 ≤ nat_lit 2147483648)) (cond (decide (List.length x2 + List.length [(x3, x4)] ≤ nat_lit 2147483648)) (cond (ok (L12_8_0 FU (↑(List.length (x2 ++ [(x3, x4)])) : Int) (0 : Int) (0 : Int) x0 (x2 ++ [(x3, x4)]) x1 [] [] [])) (some ([.agg [.int .i64 (x0), .d 5 (.int .u8) (x1), .d 44 (.pair (.int .i64) (.list 5 (.int .u8))) (val (L12_8_0 FU (↑(List.length (x2 ++ [(x3, x4)])) : Int) (0 : Int) (0 : Int) x0 (x2 ++ [(x3, x4)]) x1 [] [] []))], .sc (.int .i64 ((0 : Int)))], [])) none) none) none) none)))) none)) none) := by kernel_rfl
  rw [h]
  unfold v12
  cases (ok (v24 x0 x1 x2)) with
  | true =>
    cases (!val (v24 x0 x1 x2)) with
    | true =>
      rfl
    | false =>
      cases (ok (v30 x0 x1 x2 x3)) with
      | true =>
        cases (!val (v30 x0 x1 x2 x3)) with
        | true =>
          rfl
        | false =>
          cases ((↑(List.length x4) : Int) != x0) with
          | true =>
            rfl
          | false =>
            cases (decide ((↑(List.length x2) : Int) ≥ (64 : Int))) with
            | true =>
              rfl
            | false =>
              cases (decide (List.length x1 ≤ nat_lit 2147483648)) with
              | true =>
                cases (decide (List.length x2 ≤ nat_lit 2147483648)) with
                | true =>
                  cases (decide (List.length x2 + List.length [(x3, x4)] ≤ nat_lit 2147483648)) with
                  | true =>
                    cases (ok (L12_8_0 FU (↑(List.length (x2 ++ [(x3, x4)])) : Int) (0 : Int) (0 : Int) x0 (x2 ++ [(x3, x4)]) x1 [] [] [])) with
                    | true =>
                      rfl
                    | false =>
                      rfl
                  | false =>
                    rfl
                | false =>
                  rfl
              | false =>
                rfl
      | false =>
        rfl
  | false =>
    rfl
def sv12 : OrcS := fun al H => match al, H with
  | [.agg [.int .i64 (x0), .d 5 (.int .u8) (x1), .d 44 (.pair (.int .i64) (.list 5 (.int .u8))) (x2)], .sc (.int .i64 (x3)), .sc (.d 5 (.int .u8) (x4))], [] => some (ok (v12 x0 x1 x2 x3 x4), [.agg [.int .i64 ((val (v12 x0 x1 x2 x3 x4)).1), .d 5 (.int .u8) ((val (v12 x0 x1 x2 x3 x4)).2.1), .d 44 (.pair (.int .i64) (.list 5 (.int .u8))) ((val (v12 x0 x1 x2 x3 x4)).2.2.1)], .sc (.int .i64 ((val (v12 x0 x1 x2 x3 x4)).2.2.2))], [])
  | _, _ => none
theorem wv12 : NewOrc Try.prog dOk base o12 t12 (12, sv12) := by
  intro al H q hq hq1
  have hq : sv12 al H = some q := hq
  unfold sv12 at hq
  split at hq
  · cases hq
    exact ⟨41, (ev12 _ _ _ _ _).trans (ok_bind hq1)⟩
  · cases hq
/-- disk.done: the loop 0 -/
def L33_0_0 : Nat → (List (Int × (List Int))) → Int → Int → Int → (List Int) → (List (Int × (List Int))) → (List Int) → Option (List Int)
  | 0, _, _, _, _, _, _, _ => none
  | n + 1, x0, x1, x2, x3, x4, x5, x6 => (cond (decide (x2 < x1)) (cond (decide ((0 : Int) ≤ x2)) (cond (decide (x2 < (↑(List.length x0) : Int))) (cond (decide ((0 : Int) ≤ IntKind.wrap IntKind.i64 (Prod.fst (List.getD x0 (Int.toNat x2) ((0 : Int), [])) * x3))) (cond (decide ((0 : Int) ≤ IntKind.wrap IntKind.i64 (IntKind.wrap IntKind.i64 (Prod.fst (List.getD x0 (Int.toNat x2) ((0 : Int), [])) + (1 : Int)) * x3))) (cond (decide (Int.toNat (IntKind.wrap IntKind.i64 (Prod.fst (List.getD x0 (Int.toNat x2) ((0 : Int), [])) * x3)) ≤ Int.toNat (IntKind.wrap IntKind.i64 (IntKind.wrap IntKind.i64 (Prod.fst (List.getD x0 (Int.toNat x2) ((0 : Int), [])) + (1 : Int)) * x3)))) (cond (decide (Int.toNat (IntKind.wrap IntKind.i64 (IntKind.wrap IntKind.i64 (Prod.fst (List.getD x0 (Int.toNat x2) ((0 : Int), [])) + (1 : Int)) * x3)) ≤ Int.toNat (IntKind.wrap IntKind.i64 (IntKind.wrap IntKind.i64 (Prod.fst (List.getD x0 (Int.toNat x2) ((0 : Int), [])) + (1 : Int)) * x3)))) (cond (decide (Int.toNat (IntKind.wrap IntKind.i64 (IntKind.wrap IntKind.i64 (Prod.fst (List.getD x0 (Int.toNat x2) ((0 : Int), [])) + (1 : Int)) * x3)) ≤ List.length x6)) (cond (decide (Int.toNat (IntKind.wrap IntKind.i64 (Prod.fst (List.getD x0 (Int.toNat x2) ((0 : Int), [])) * x3)) + (Int.toNat (IntKind.wrap IntKind.i64 (IntKind.wrap IntKind.i64 (Prod.fst (List.getD x0 (Int.toNat x2) ((0 : Int), [])) + (1 : Int)) * x3)) - Int.toNat (IntKind.wrap IntKind.i64 (Prod.fst (List.getD x0 (Int.toNat x2) ((0 : Int), [])) * x3))) ≤ List.length x6)) (L33_0_0 n (x0) (x1) (IntKind.wrap IntKind.i64 (x2 + (1 : Int))) (x3) (x4) (x5) (List.take (Int.toNat (IntKind.wrap IntKind.i64 (Prod.fst (List.getD x0 (Int.toNat x2) ((0 : Int), [])) * x3))) x6 ++ List.take (Int.toNat (IntKind.wrap IntKind.i64 (IntKind.wrap IntKind.i64 (Prod.fst (List.getD x0 (Int.toNat x2) ((0 : Int), [])) + (1 : Int)) * x3)) - Int.toNat (IntKind.wrap IntKind.i64 (Prod.fst (List.getD x0 (Int.toNat x2) ((0 : Int), [])) * x3))) (Prod.snd (List.getD x0 (Int.toNat x2) ((0 : Int), []))) ++ List.drop (Int.toNat (IntKind.wrap IntKind.i64 (Prod.fst (List.getD x0 (Int.toNat x2) ((0 : Int), [])) * x3)) + min (Int.toNat (IntKind.wrap IntKind.i64 (IntKind.wrap IntKind.i64 (Prod.fst (List.getD x0 (Int.toNat x2) ((0 : Int), [])) + (1 : Int)) * x3)) - Int.toNat (IntKind.wrap IntKind.i64 (Prod.fst (List.getD x0 (Int.toNat x2) ((0 : Int), [])) * x3))) (List.length (Prod.snd (List.getD x0 (Int.toNat x2) ((0 : Int), []))))) x6)) none) none) none) none) none) none) none) none) (some (x6)))
theorem qL33_0_0 (n : Nat) (x0 : (List (Int × (List Int)))) (x1 : Int) (x2 : Int) (x3 : Int) (x4 : (List Int)) (x5 : (List (Int × (List Int)))) (x6 : (List Int)) : L33_0_0 (n + 1) x0 x1 x2 x3 x4 x5 x6 = (cond (decide (x2 < x1)) (cond (decide ((0 : Int) ≤ x2)) (cond (decide (x2 < (↑(List.length x0) : Int))) (cond (decide ((0 : Int) ≤ IntKind.wrap IntKind.i64 (Prod.fst (List.getD x0 (Int.toNat x2) ((0 : Int), [])) * x3))) (cond (decide ((0 : Int) ≤ IntKind.wrap IntKind.i64 (IntKind.wrap IntKind.i64 (Prod.fst (List.getD x0 (Int.toNat x2) ((0 : Int), [])) + (1 : Int)) * x3))) (cond (decide (Int.toNat (IntKind.wrap IntKind.i64 (Prod.fst (List.getD x0 (Int.toNat x2) ((0 : Int), [])) * x3)) ≤ Int.toNat (IntKind.wrap IntKind.i64 (IntKind.wrap IntKind.i64 (Prod.fst (List.getD x0 (Int.toNat x2) ((0 : Int), [])) + (1 : Int)) * x3)))) (cond (decide (Int.toNat (IntKind.wrap IntKind.i64 (IntKind.wrap IntKind.i64 (Prod.fst (List.getD x0 (Int.toNat x2) ((0 : Int), [])) + (1 : Int)) * x3)) ≤ Int.toNat (IntKind.wrap IntKind.i64 (IntKind.wrap IntKind.i64 (Prod.fst (List.getD x0 (Int.toNat x2) ((0 : Int), [])) + (1 : Int)) * x3)))) (cond (decide (Int.toNat (IntKind.wrap IntKind.i64 (IntKind.wrap IntKind.i64 (Prod.fst (List.getD x0 (Int.toNat x2) ((0 : Int), [])) + (1 : Int)) * x3)) ≤ List.length x6)) (cond (decide (Int.toNat (IntKind.wrap IntKind.i64 (Prod.fst (List.getD x0 (Int.toNat x2) ((0 : Int), [])) * x3)) + (Int.toNat (IntKind.wrap IntKind.i64 (IntKind.wrap IntKind.i64 (Prod.fst (List.getD x0 (Int.toNat x2) ((0 : Int), [])) + (1 : Int)) * x3)) - Int.toNat (IntKind.wrap IntKind.i64 (Prod.fst (List.getD x0 (Int.toNat x2) ((0 : Int), [])) * x3))) ≤ List.length x6)) (L33_0_0 n (x0) (x1) (IntKind.wrap IntKind.i64 (x2 + (1 : Int))) (x3) (x4) (x5) (List.take (Int.toNat (IntKind.wrap IntKind.i64 (Prod.fst (List.getD x0 (Int.toNat x2) ((0 : Int), [])) * x3))) x6 ++ List.take (Int.toNat (IntKind.wrap IntKind.i64 (IntKind.wrap IntKind.i64 (Prod.fst (List.getD x0 (Int.toNat x2) ((0 : Int), [])) + (1 : Int)) * x3)) - Int.toNat (IntKind.wrap IntKind.i64 (Prod.fst (List.getD x0 (Int.toNat x2) ((0 : Int), [])) * x3))) (Prod.snd (List.getD x0 (Int.toNat x2) ((0 : Int), []))) ++ List.drop (Int.toNat (IntKind.wrap IntKind.i64 (Prod.fst (List.getD x0 (Int.toNat x2) ((0 : Int), [])) * x3)) + min (Int.toNat (IntKind.wrap IntKind.i64 (IntKind.wrap IntKind.i64 (Prod.fst (List.getD x0 (Int.toNat x2) ((0 : Int), [])) + (1 : Int)) * x3)) - Int.toNat (IntKind.wrap IntKind.i64 (Prod.fst (List.getD x0 (Int.toNat x2) ((0 : Int), [])) * x3))) (List.length (Prod.snd (List.getD x0 (Int.toNat x2) ((0 : Int), []))))) x6)) none) none) none) none) none) none) none) none) (some (x6))) := by rfl
def xL33_0_0 (x0 : (List (Int × (List Int)))) (x1 : Int) (x2 : Int) (x3 : Int) (x4 : (List Int)) (x5 : (List (Int × (List Int)))) (x6 : (List Int)) : (List Int) → Ex × CS := fun r => ((.exit 0), { sl := [(2, .l 2 0), (5, .v (.sc (.g 0)))], lo := [], h := [.row 5 (.int .u8) (r)], n0 := 0 })
theorem bL33_0_0 (k : Nat) (cN : CS → Option (Ex × CS)) (cX : Ex → CS → Option (Ex × CS)) (x0 : (List (Int × (List Int)))) (x1 : Int) (x2 : Int) (x3 : Int) (x4 : (List Int)) (x5 : (List (Int × (List Int)))) (x6 : (List Int)) : loopBody Try.prog (mkTn base o12 t12 33) (TM.evF Try.prog (mkTn base o12 t12) dOk (k + 40)) dOk (k + 40) (codeAt Try.prog (tn0 33) 33 0) 0 0 { sl := [(2, .l 2 0), (5, .v (.sc (.g 0))), (18, .v (.sc (.d 44 (.pair (.int .i64) (.list 5 (.int .u8))) (x0)))), (19, .v (.sc (.int .i64 (x1)))), (20, .v (.sc (.int .i64 (x2))))], lo := [(2, [.int .i64 (x3), .d 5 (.int .u8) (x4), .d 44 (.pair (.int .i64) (.list 5 (.int .u8))) (x5)])], h := [.row 5 (.int .u8) (x6)], n0 := 0 } cN cX = (cond (decide (x2 < x1)) (cond (decide ((0 : Int) ≤ x2)) (cond (decide (x2 < (↑(List.length x0) : Int))) (cond (decide ((0 : Int) ≤ IntKind.wrap IntKind.i64 (Prod.fst (List.getD x0 (Int.toNat x2) ((0 : Int), [])) * x3))) (cond (decide ((0 : Int) ≤ IntKind.wrap IntKind.i64 (IntKind.wrap IntKind.i64 (Prod.fst (List.getD x0 (Int.toNat x2) ((0 : Int), [])) + (1 : Int)) * x3))) (cond (decide ((0 : Int) ≤ IntKind.wrap IntKind.i64 (IntKind.wrap IntKind.i64 (Prod.fst (List.getD x0 (Int.toNat x2) ((0 : Int), [])) + (1 : Int)) * x3))) (cond (decide (Int.toNat (IntKind.wrap IntKind.i64 (Prod.fst (List.getD x0 (Int.toNat x2) ((0 : Int), [])) * x3)) ≤ Int.toNat (IntKind.wrap IntKind.i64 (IntKind.wrap IntKind.i64 (Prod.fst (List.getD x0 (Int.toNat x2) ((0 : Int), [])) + (1 : Int)) * x3)))) (cond (decide (Int.toNat (IntKind.wrap IntKind.i64 (IntKind.wrap IntKind.i64 (Prod.fst (List.getD x0 (Int.toNat x2) ((0 : Int), [])) + (1 : Int)) * x3)) ≤ Int.toNat (IntKind.wrap IntKind.i64 (IntKind.wrap IntKind.i64 (Prod.fst (List.getD x0 (Int.toNat x2) ((0 : Int), [])) + (1 : Int)) * x3)))) (cond (decide (Int.toNat (IntKind.wrap IntKind.i64 (IntKind.wrap IntKind.i64 (Prod.fst (List.getD x0 (Int.toNat x2) ((0 : Int), [])) + (1 : Int)) * x3)) ≤ List.length x6)) (cond (decide (Int.toNat (IntKind.wrap IntKind.i64 (Prod.fst (List.getD x0 (Int.toNat x2) ((0 : Int), [])) * x3)) + (Int.toNat (IntKind.wrap IntKind.i64 (IntKind.wrap IntKind.i64 (Prod.fst (List.getD x0 (Int.toNat x2) ((0 : Int), [])) + (1 : Int)) * x3)) - Int.toNat (IntKind.wrap IntKind.i64 (Prod.fst (List.getD x0 (Int.toNat x2) ((0 : Int), [])) * x3))) ≤ List.length x6)) (cN { sl := [(2, .l 2 0), (5, .v (.sc (.g 0))), (18, .v (.sc (.d 44 (.pair (.int .i64) (.list 5 (.int .u8))) (x0)))), (19, .v (.sc (.int .i64 (x1)))), (20, .v (.sc (.int .i64 (IntKind.wrap IntKind.i64 (x2 + (1 : Int))))))], lo := [(2, [.int .i64 (x3), .d 5 (.int .u8) (x4), .d 44 (.pair (.int .i64) (.list 5 (.int .u8))) (x5)])], h := [.row 5 (.int .u8) (List.take (Int.toNat (IntKind.wrap IntKind.i64 (Prod.fst (List.getD x0 (Int.toNat x2) ((0 : Int), [])) * x3))) x6 ++ List.take (Int.toNat (IntKind.wrap IntKind.i64 (IntKind.wrap IntKind.i64 (Prod.fst (List.getD x0 (Int.toNat x2) ((0 : Int), [])) + (1 : Int)) * x3)) - Int.toNat (IntKind.wrap IntKind.i64 (Prod.fst (List.getD x0 (Int.toNat x2) ((0 : Int), [])) * x3))) (Prod.snd (List.getD x0 (Int.toNat x2) ((0 : Int), []))) ++ List.drop (Int.toNat (IntKind.wrap IntKind.i64 (Prod.fst (List.getD x0 (Int.toNat x2) ((0 : Int), [])) * x3)) + min (Int.toNat (IntKind.wrap IntKind.i64 (IntKind.wrap IntKind.i64 (Prod.fst (List.getD x0 (Int.toNat x2) ((0 : Int), [])) + (1 : Int)) * x3)) - Int.toNat (IntKind.wrap IntKind.i64 (Prod.fst (List.getD x0 (Int.toNat x2) ((0 : Int), [])) * x3))) (List.length (Prod.snd (List.getD x0 (Int.toNat x2) ((0 : Int), []))))) x6)], n0 := 0 }) none) none) none) none) none) none) none) none) none) (cX (.exit 0) { sl := [(2, .l 2 0), (5, .v (.sc (.g 0)))], lo := [], h := [.row 5 (.int .u8) (x6)], n0 := 0 })) := by kernel_rfl
theorem lL33_0_0 (k m : Nat) : ∀ (n : Nat) (x0 : (List (Int × (List Int)))) (x1 : Int) (x2 : Int) (x3 : Int) (x4 : (List Int)) (x5 : (List (Int × (List Int)))) (x6 : (List Int)) (r : (List Int)), L33_0_0 n x0 x1 x2 x3 x4 x5 x6 = some r → loopE Try.prog (mkTn base o12 t12 33) (TM.evF Try.prog (mkTn base o12 t12) dOk (k + 40)) dOk (k + 40) (codeAt Try.prog (tn0 33) 33 0) 0 0 (n + m) { sl := [(2, .l 2 0), (5, .v (.sc (.g 0))), (18, .v (.sc (.d 44 (.pair (.int .i64) (.list 5 (.int .u8))) (x0)))), (19, .v (.sc (.int .i64 (x1)))), (20, .v (.sc (.int .i64 (x2))))], lo := [(2, [.int .i64 (x3), .d 5 (.int .u8) (x4), .d 44 (.pair (.int .i64) (.list 5 (.int .u8))) (x5)])], h := [.row 5 (.int .u8) (x6)], n0 := 0 } = some (xL33_0_0 x0 x1 x2 x3 x4 x5 x6 r) := by
  intro n
  induction n with
  | zero => intro _ _ _ _ _ _ _ r h; cases h
  | succ n ih =>
    intro x0 x1 x2 x3 x4 x5 x6 r
    rw [show n + 1 + m = n + m + 1 by omega, loop_step, bL33_0_0, qL33_0_0]
    cases (decide (x2 < x1)) with
    | true =>
      cases (decide ((0 : Int) ≤ x2)) with
      | true =>
        cases (decide (x2 < (↑(List.length x0) : Int))) with
        | true =>
          cases (decide ((0 : Int) ≤ IntKind.wrap IntKind.i64 (Prod.fst (List.getD x0 (Int.toNat x2) ((0 : Int), [])) * x3))) with
          | true =>
            cases (decide ((0 : Int) ≤ IntKind.wrap IntKind.i64 (IntKind.wrap IntKind.i64 (Prod.fst (List.getD x0 (Int.toNat x2) ((0 : Int), [])) + (1 : Int)) * x3))) with
            | true =>
              cases (decide (Int.toNat (IntKind.wrap IntKind.i64 (Prod.fst (List.getD x0 (Int.toNat x2) ((0 : Int), [])) * x3)) ≤ Int.toNat (IntKind.wrap IntKind.i64 (IntKind.wrap IntKind.i64 (Prod.fst (List.getD x0 (Int.toNat x2) ((0 : Int), [])) + (1 : Int)) * x3)))) with
              | true =>
                cases (decide (Int.toNat (IntKind.wrap IntKind.i64 (IntKind.wrap IntKind.i64 (Prod.fst (List.getD x0 (Int.toNat x2) ((0 : Int), [])) + (1 : Int)) * x3)) ≤ Int.toNat (IntKind.wrap IntKind.i64 (IntKind.wrap IntKind.i64 (Prod.fst (List.getD x0 (Int.toNat x2) ((0 : Int), [])) + (1 : Int)) * x3)))) with
                | true =>
                  cases (decide (Int.toNat (IntKind.wrap IntKind.i64 (IntKind.wrap IntKind.i64 (Prod.fst (List.getD x0 (Int.toNat x2) ((0 : Int), [])) + (1 : Int)) * x3)) ≤ List.length x6)) with
                  | true =>
                    cases (decide (Int.toNat (IntKind.wrap IntKind.i64 (Prod.fst (List.getD x0 (Int.toNat x2) ((0 : Int), [])) * x3)) + (Int.toNat (IntKind.wrap IntKind.i64 (IntKind.wrap IntKind.i64 (Prod.fst (List.getD x0 (Int.toNat x2) ((0 : Int), [])) + (1 : Int)) * x3)) - Int.toNat (IntKind.wrap IntKind.i64 (Prod.fst (List.getD x0 (Int.toNat x2) ((0 : Int), [])) * x3))) ≤ List.length x6)) with
                    | true =>
                      exact ih _ _ _ _ _ _ _ r
                    | false =>
                      intro h; cases h
                  | false =>
                    intro h; cases h
                | false =>
                  intro h; cases h
              | false =>
                intro h; cases h
            | false =>
              intro h; cases h
          | false =>
            intro h; cases h
        | false =>
          intro h; cases h
      | false =>
        intro h; cases h
    | false =>
      intro h; cases h; rfl
def sL33_0_0 : TellS := fun S => match S with
  | { sl := [(2, .l 2 0), (5, .v (.sc (.g 0))), (18, .v (.sc (.d 44 (.pair (.int .i64) (.list 5 (.int .u8))) (x0)))), (19, .v (.sc (.int .i64 (x1)))), (20, .v (.sc (.int .i64 (x2))))], lo := [(2, [.int .i64 (x3), .d 5 (.int .u8) (x4), .d 44 (.pair (.int .i64) (.list 5 (.int .u8))) (x5)])], h := [.row 5 (.int .u8) (x6)], n0 := 0 } => some [(ok (L33_0_0 FU x0 x1 x2 x3 x4 x5 x6), (.exit 0), { sl := [(2, .l 2 0), (5, .v (.sc (.g 0)))], lo := [], h := [.row 5 (.int .u8) ((val (L33_0_0 FU x0 x1 x2 x3 x4 x5 x6)))], n0 := 0 })]
  | _ => none
theorem wL33_0_0 : NewTell Try.prog dOk base o12 t12 ((33, 0), sL33_0_0) := by
  refine ⟨.loop (codeAt Try.prog (tn0 33) 33 0), 0, by kernel_rfl, ?_⟩
  intro S alts e S' h1 h2
  have h1 : sL33_0_0 S = some alts := h1
  unfold sL33_0_0 at h1
  split at h1
  · cases h1
    obtain ⟨hc0, rfl, rfl⟩ := pick_one h2
    exact ⟨FU + 40, (evPiece_loop rfl).trans (lL33_0_0 FU 40 FU _ _ _ _ _ _ _ _ (ok_val hc0))⟩
  · cases h1
def o13 : OrcT := (12, sv12) :: o12
def t13 : TellT := ((33, 0), sL33_0_0) :: t12
abbrev tn13 : FuncId → TAn := mkTn base o13 t13
theorem ok13 : TnOk Try.prog tn13 (mkA base) dOk := by
  have h0 : TnOk Try.prog (mkTn base o12 t12) (mkA base) dOk := ok12
  have h1 := tn_orc h0 h0 (p := (12, sv12)) wv12
  have h2 := tn_tell h0 h1 (p := ((33, 0), sL33_0_0)) wL33_0_0
  exact h2
end Go.Proofs.Ytchgjjgdgbecmaa
set_option maxRecDepth 1000000
set_option linter.unusedVariables false
set_option maxHeartbeats 4000000
namespace Go.Proofs.Ytchgjjgdgbecmaa
open Go Go.AM Go.TM Go.Proofs
/-- disk.done -/
def v33 (x0 : Int) (x1 : (List Int)) (x2 : (List (Int × (List Int)))) (x3 : (List (Int × (List Int)))) : Option (List Int) := (cond (decide ((↑(List.length x1) : Int) ≤ (↑(List.length x1) : Int))) (cond (decide ((↑(List.length x1) : Int) ≤ (↑(nat_lit 2147483648) : Int))) (cond (ok (L33_0_0 FU x3 (↑(List.length x3) : Int) (0 : Int) x0 x1 x2 (List.take (List.length (List.replicate (Int.toNat (↑(List.length x1) : Int)) (0 : Int))) x1 ++ List.drop (List.length x1) (List.replicate (Int.toNat (↑(List.length x1) : Int)) (0 : Int))))) (some (val (L33_0_0 FU x3 (↑(List.length x3) : Int) (0 : Int) x0 x1 x2 (List.take (List.length (List.replicate (Int.toNat (↑(List.length x1) : Int)) (0 : Int))) x1 ++ List.drop (List.length x1) (List.replicate (Int.toNat (↑(List.length x1) : Int)) (0 : Int)))))) none) none) none)
theorem ev33 (x0 : Int) (x1 : (List Int)) (x2 : (List (Int × (List Int)))) (x3 : (List (Int × (List Int)))) : fnBody Try.prog (mkTn base o13 t13 33) (TM.evF Try.prog (mkTn base o13 t13) dOk 40) dOk 40 33 [.agg [.int .i64 (x0), .d 5 (.int .u8) (x1), .d 44 (.pair (.int .i64) (.list 5 (.int .u8))) (x2)], .sc (.d 44 (.pair (.int .i64) (.list 5 (.int .u8))) (x3))] [] = (v33 x0 x1 x2 x3).bind fun r => some ([.sc (.d 5 (.int .u8) (r))], []) := by
  have h : fnBody Try.prog (mkTn base o13 t13 33) (TM.evF Try.prog (mkTn base o13 t13) dOk 40) dOk 40 33 [.agg [.int .i64 (x0), .d 5 (.int .u8) (x1), .d 44 (.pair (.int .i64) (.list 5 (.int .u8))) (x2)], .sc (.d 44 (.pair (.int .i64) (.list 5 (.int .u8))) (x3))] [] = (cond (decide ((↑(List.length x1) : Int) ≤ (↑(List.length x1) : Int))) (cond (decide ((↑(List.length x1) : Int) ≤ (↑(nat_lit 2147483648) : Int))) (cond (ok (L33_0_0 FU x3 (↑(List.length x3) : Int) (0 : Int) x0 x1 x2 (List.take (List.length (List.replicate (Int.toNat (↑(List.length x1) : Int)) (0 : Int))) x1 ++ List.drop (List.length x1) (List.replicate (Int.toNat (↑(List.length x1) : Int)) (0 : Int))))) (some ([.sc (.d 5 (.int .u8) (val (L33_0_0 FU x3 (↑(List.length x3) : Int) (0 : Int) x0 x1 x2 (List.take (List.length (List.replicate (Int.toNat (↑(List.length x1) : Int)) (0 : Int))) x1 ++ List.drop (List.length x1) (List.replicate (Int.toNat (↑(List.length x1) : Int)) (0 : Int))))))], [])) none) none) none) := by kernel_rfl
  rw [h]
  unfold v33
  cases (decide ((↑(List.length x1) : Int) ≤ (↑(List.length x1) : Int))) with
  | true =>
    cases (decide ((↑(List.length x1) : Int) ≤ (↑(nat_lit 2147483648) : Int))) with
    | true =>
      cases (ok (L33_0_0 FU x3 (↑(List.length x3) : Int) (0 : Int) x0 x1 x2 (List.take (List.length (List.replicate (Int.toNat (↑(List.length x1) : Int)) (0 : Int))) x1 ++ List.drop (List.length x1) (List.replicate (Int.toNat (↑(List.length x1) : Int)) (0 : Int))))) with
      | true =>
        rfl
      | false =>
        rfl
    | false =>
      rfl
  | false =>
    rfl
def sv33 : OrcS := fun al H => match al, H with
  | [.agg [.int .i64 (x0), .d 5 (.int .u8) (x1), .d 44 (.pair (.int .i64) (.list 5 (.int .u8))) (x2)], .sc (.d 44 (.pair (.int .i64) (.list 5 (.int .u8))) (x3))], [] => some (ok (v33 x0 x1 x2 x3), [.sc (.d 5 (.int .u8) ((val (v33 x0 x1 x2 x3))))], [])
  | _, _ => none
theorem wv33 : NewOrc Try.prog dOk base o13 t13 (33, sv33) := by
  intro al H q hq hq1
  have hq : sv33 al H = some q := hq
  unfold sv33 at hq
  split at hq
  · cases hq
    exact ⟨41, (ev33 _ _ _ _).trans (ok_bind hq1)⟩
  · cases hq
def o14 : OrcT := (33, sv33) :: o13
def t14 : TellT := t13
abbrev tn14 : FuncId → TAn := mkTn base o14 t14
theorem ok14 : TnOk Try.prog tn14 (mkA base) dOk := by
  have h0 : TnOk Try.prog (mkTn base o13 t13) (mkA base) dOk := ok13
  have h1 := tn_orc h0 h0 (p := (33, sv33)) wv33
  exact h1
end Go.Proofs.Ytchgjjgdgbecmaa
set_option maxRecDepth 1000000
set_option linter.unusedVariables false
set_option maxHeartbeats 4000000
namespace Go.Proofs.Ytchgjjgdgbecmaa
open Go Go.AM Go.TM Go.Proofs
/-- disk.Sync -/
def v14 (x0 : Int) (x1 : (List Int)) (x2 : (List (Int × (List Int)))) : Option (Int × (List Int) × (List (Int × (List Int))) × Int) := (cond (ok (v24 x0 x1 x2)) (cond (!val (v24 x0 x1 x2)) (some ((0 : Int), [], [], (1 : Int))) (cond (ok (v33 x0 x1 x2 x2)) (some (x0, val (v33 x0 x1 x2 x2), [], (0 : Int))) none)) none)
theorem ev14 (x0 : Int) (x1 : (List Int)) (x2 : (List (Int × (List Int)))) : fnBody Try.prog (mkTn base o14 t14 14) (TM.evF Try.prog (mkTn base o14 t14) dOk 40) dOk 40 14 [.agg [.int .i64 (x0), .d 5 (.int .u8) (x1), .d 44 (.pair (.int .i64) (.list 5 (.int .u8))) (x2)]] [] = (v14 x0 x1 x2).bind fun r => some ([.agg [.int .i64 (r.1), .d 5 (.int .u8) (r.2.1), .d 44 (.pair (.int .i64) (.list 5 (.int .u8))) (r.2.2.1)], .sc (.int .i64 (r.2.2.2))], []) := by
  have h : fnBody Try.prog (mkTn base o14 t14 14) (TM.evF Try.prog (mkTn base o14 t14) dOk 40) dOk 40 14 [.agg [.int .i64 (x0), .d 5 (.int .u8) (x1), .d 44 (.pair (.int .i64) (.list 5 (.int .u8))) (x2)]] [] = (cond (ok (v24 x0 x1 x2)) (cond (!val (v24 x0 x1 x2)) (some ([.agg [.int .i64 ((0 : Int)), .d 5 (.int .u8) ([]), .d 44 (.pair (.int .i64) (.list 5 (.int .u8))) ([])], .sc (.int .i64 ((1 : Int)))], [])) (cond (ok (v33 x0 x1 x2 x2)) (some ([.agg [.int .i64 (x0), .d 5 (.int .u8) (val (v33 x0 x1 x2 x2)), .d 44 (.pair (.int .i64) (.list 5 (.int .u8))) ([])], .sc (.int .i64 ((0 : Int)))], [])) none)) none) := by kernel_rfl
  rw [h]
  unfold v14
  cases (ok (v24 x0 x1 x2)) with
  | true =>
    cases (!val (v24 x0 x1 x2)) with
    | true =>
      rfl
    | false =>
      cases (ok (v33 x0 x1 x2 x2)) with
      | true =>
        rfl
      | false =>
        rfl
  | false =>
    rfl
def sv14 : OrcS := fun al H => match al, H with
  | [.agg [.int .i64 (x0), .d 5 (.int .u8) (x1), .d 44 (.pair (.int .i64) (.list 5 (.int .u8))) (x2)]], [] => some (ok (v14 x0 x1 x2), [.agg [.int .i64 ((val (v14 x0 x1 x2)).1), .d 5 (.int .u8) ((val (v14 x0 x1 x2)).2.1), .d 44 (.pair (.int .i64) (.list 5 (.int .u8))) ((val (v14 x0 x1 x2)).2.2.1)], .sc (.int .i64 ((val (v14 x0 x1 x2)).2.2.2))], [])
  | _, _ => none
theorem wv14 : NewOrc Try.prog dOk base o14 t14 (14, sv14) := by
  intro al H q hq hq1
  have hq : sv14 al H = some q := hq
  unfold sv14 at hq
  split at hq
  · cases hq
    exact ⟨41, (ev14 _ _ _).trans (ok_bind hq1)⟩
  · cases hq
/-- disk.Crash -/
def v16 (x0 : Int) (x1 : (List Int)) (x2 : (List (Int × (List Int)))) (x3 : (List Bool)) (x4 : Int) (x5 : Int) : Option (Int × (List Int) × (List (Int × (List Int))) × Int) := (cond (ok (v24 x0 x1 x2)) (cond (!val (v24 x0 x1 x2)) (some ((0 : Int), [], [], (1 : Int))) (cond ((↑(List.length x3) : Int) != (↑(List.length x2) : Int)) (some ((0 : Int), [], [], (1 : Int))) (cond (decide (x4 < (-1 : Int))) (some ((0 : Int), [], [], (1 : Int))) (cond (decide (x4 ≥ (↑(List.length x3) : Int))) (some ((0 : Int), [], [], (1 : Int))) (cond (decide (x5 < (0 : Int))) (some ((0 : Int), [], [], (1 : Int))) (cond (decide (x5 > x0)) (some ((0 : Int), [], [], (1 : Int))) (cond (ok (L16_0_0 FU x3 x4 x5 x2 (↑(List.length x2) : Int) (0 : Int) x0 x1 x2 (0 : Int) [] [] [])) (cond (ok (v33 x0 x1 x2 (val (L16_0_0 FU x3 x4 x5 x2 (↑(List.length x2) : Int) (0 : Int) x0 x1 x2 (0 : Int) [] [] [])))) (some (x0, val (v33 x0 x1 x2 (val (L16_0_0 FU x3 x4 x5 x2 (↑(List.length x2) : Int) (0 : Int) x0 x1 x2 (0 : Int) [] [] []))), [], (0 : Int))) none) none))))))) none)
theorem ev16 (x0 : Int) (x1 : (List Int)) (x2 : (List (Int × (List Int)))) (x3 : (List Bool)) (x4 : Int) (x5 : Int) : fnBody Try.prog (mkTn base o14 t14 16) (TM.evF Try.prog (mkTn base o14 t14) dOk 40) dOk 40 16 [.agg [.int .i64 (x0), .d 5 (.int .u8) (x1), .d 44 (.pair (.int .i64) (.list 5 (.int .u8))) (x2)], .sc (.d 4 .bool (x3)), .sc (.int .i64 (x4)), .sc (.int .i64 (x5))] [] = (v16 x0 x1 x2 x3 x4 x5).bind fun r => some ([.agg [.int .i64 (r.1), .d 5 (.int .u8) (r.2.1), .d 44 (.pair (.int .i64) (.list 5 (.int .u8))) (r.2.2.1)], .sc (.int .i64 (r.2.2.2))], []) := by
  have h : fnBody Try.prog (mkTn base o14 t14 16) (TM.evF Try.prog (mkTn base o14 t14) dOk 40) dOk 40 16 [.agg [.int .i64 (x0), .d 5 (.int .u8) (x1), .d 44 (.pair (.int .i64) (.list 5 (.int .u8))) (x2)], .sc (.d 4 .bool (x3)), .sc (.int .i64 (x4)), .sc (.int .i64 (x5))] [] = (cond (ok (v24 x0 x1 x2)) (cond (!val (v24 x0 x1 x2)) (some ([.agg [.int .i64 ((0 : Int)), .d 5 (.int .u8) ([]), .d 44 (.pair (.int .i64) (.list 5 (.int .u8))) ([])], .sc (.int .i64 ((1 : Int)))], [])) (cond ((↑(List.length x3) : Int) != (↑(List.length x2) : Int)) (some ([.agg [.int .i64 ((0 : Int)), .d 5 (.int .u8) ([]), .d 44 (.pair (.int .i64) (.list 5 (.int .u8))) ([])], .sc (.int .i64 ((1 : Int)))], [])) (cond (decide (x4 < (-1 : Int))) (some ([.agg [.int .i64 ((0 : Int)), .d 5 (.int .u8) ([]), .d 44 (.pair (.int .i64) (.list 5 (.int .u8))) ([])], .sc (.int .i64 ((1 : Int)))], [])) (cond (decide (x4 ≥ (↑(List.length x3) : Int))) (some ([.agg [.int .i64 ((0 : Int)), .d 5 (.int .u8) ([]), .d 44 (.pair (.int .i64) (.list 5 (.int .u8))) ([])], .sc (.int .i64 ((1 : Int)))], [])) (cond (decide (x5 < (0 : Int))) (some ([.agg [.int .i64 ((0 : Int)), .d 5 (.int .u8) ([]), .d 44 (.pair (.int .i64) (.list 5 (.int .u8))) ([])], .sc (.int .i64 ((1 : Int)))], [])) (cond (decide (x5 > x0)) (some ([.agg [.int .i64 ((0 : Int)), .d 5 (.int .u8) ([]), .d 44 (.pair (.int .i64) (.list 5 (.int .u8))) ([])], .sc (.int .i64 ((1 : Int)))], [])) (cond (ok (L16_0_0 FU x3 x4 x5 x2 (↑(List.length x2) : Int) (0 : Int) x0 x1 x2 (0 : Int) [] [] [])) (cond (ok (v33 x0 x1 x2 (val (L16_0_0 FU x3 x4 x5 x2 (↑(List.length x2) : Int) (0 : Int) x0 x1 x2 (0 : Int) [] [] [])))) (some ([.agg [.int .i64 (x0), .d 5 (.int .u8) (val (v33 x0 x1 x2 (val (L16_0_0 FU x3 x4 x5 x2 (↑(List.length x2) : Int) (0 : Int) x0 x1 x2 (0 : Int) [] [] [])))), .d 44 (.pair (.int .i64) (.list 5 (.int .u8))) ([])], .sc (.int .i64 ((0 : Int)))], [])) none) none))))))) none) := by kernel_rfl
  rw [h]
  unfold v16
  cases (ok (v24 x0 x1 x2)) with
  | true =>
    cases (!val (v24 x0 x1 x2)) with
    | true =>
      rfl
    | false =>
      cases ((↑(List.length x3) : Int) != (↑(List.length x2) : Int)) with
      | true =>
        rfl
      | false =>
        cases (decide (x4 < (-1 : Int))) with
        | true =>
          rfl
        | false =>
          cases (decide (x4 ≥ (↑(List.length x3) : Int))) with
          | true =>
            rfl
          | false =>
            cases (decide (x5 < (0 : Int))) with
            | true =>
              rfl
            | false =>
              cases (decide (x5 > x0)) with
              | true =>
                rfl
              | false =>
                cases (ok (L16_0_0 FU x3 x4 x5 x2 (↑(List.length x2) : Int) (0 : Int) x0 x1 x2 (0 : Int) [] [] [])) with
                | true =>
                  cases (ok (v33 x0 x1 x2 (val (L16_0_0 FU x3 x4 x5 x2 (↑(List.length x2) : Int) (0 : Int) x0 x1 x2 (0 : Int) [] [] [])))) with
                  | true =>
                    rfl
                  | false =>
                    rfl
                | false =>
                  rfl
  | false =>
    rfl
def sv16 : OrcS := fun al H => match al, H with
  | [.agg [.int .i64 (x0), .d 5 (.int .u8) (x1), .d 44 (.pair (.int .i64) (.list 5 (.int .u8))) (x2)], .sc (.d 4 .bool (x3)), .sc (.int .i64 (x4)), .sc (.int .i64 (x5))], [] => some (ok (v16 x0 x1 x2 x3 x4 x5), [.agg [.int .i64 ((val (v16 x0 x1 x2 x3 x4 x5)).1), .d 5 (.int .u8) ((val (v16 x0 x1 x2 x3 x4 x5)).2.1), .d 44 (.pair (.int .i64) (.list 5 (.int .u8))) ((val (v16 x0 x1 x2 x3 x4 x5)).2.2.1)], .sc (.int .i64 ((val (v16 x0 x1 x2 x3 x4 x5)).2.2.2))], [])
  | _, _ => none
theorem wv16 : NewOrc Try.prog dOk base o14 t14 (16, sv16) := by
  intro al H q hq hq1
  have hq : sv16 al H = some q := hq
  unfold sv16 at hq
  split at hq
  · cases hq
    exact ⟨41, (ev16 _ _ _ _ _ _).trans (ok_bind hq1)⟩
  · cases hq
/-- disk.Read -/
def v18 (x0 : Int) (x1 : (List Int)) (x2 : (List (Int × (List Int)))) (x3 : Int) : Option ((List Int) × Int) := (cond (ok (v24 x0 x1 x2)) (cond (!val (v24 x0 x1 x2)) (some ([], (1 : Int))) (cond (ok (v30 x0 x1 x2 x3)) (cond (!val (v30 x0 x1 x2 x3)) (some ([], (1 : Int))) (cond (ok (v33 x0 x1 x2 x2)) (cond (decide ((0 : Int) ≤ IntKind.wrap IntKind.i64 (x3 * x0))) (cond (decide ((0 : Int) ≤ IntKind.wrap IntKind.i64 (IntKind.wrap IntKind.i64 (x3 + (1 : Int)) * x0))) (cond (decide (Int.toNat (IntKind.wrap IntKind.i64 (x3 * x0)) ≤ Int.toNat (IntKind.wrap IntKind.i64 (IntKind.wrap IntKind.i64 (x3 + (1 : Int)) * x0)))) (cond (decide (Int.toNat (IntKind.wrap IntKind.i64 (IntKind.wrap IntKind.i64 (x3 + (1 : Int)) * x0)) ≤ Int.toNat (IntKind.wrap IntKind.i64 (IntKind.wrap IntKind.i64 (x3 + (1 : Int)) * x0)))) (cond (decide (Int.toNat (IntKind.wrap IntKind.i64 (IntKind.wrap IntKind.i64 (x3 + (1 : Int)) * x0)) ≤ List.length (val (v33 x0 x1 x2 x2)))) (cond (decide (List.length (List.drop (Int.toNat (IntKind.wrap IntKind.i64 (x3 * x0))) (List.take (Int.toNat (IntKind.wrap IntKind.i64 (IntKind.wrap IntKind.i64 (x3 + (1 : Int)) * x0))) (val (v33 x0 x1 x2 x2)))) ≤ nat_lit 2147483648)) (some (List.drop (Int.toNat (IntKind.wrap IntKind.i64 (x3 * x0))) (List.take (Int.toNat (IntKind.wrap IntKind.i64 (IntKind.wrap IntKind.i64 (x3 + (1 : Int)) * x0))) (val (v33 x0 x1 x2 x2))), (0 : Int))) none) none) none) none) none) none) none)) none)) none)
theorem ev18 (x0 : Int) (x1 : (List Int)) (x2 : (List (Int × (List Int)))) (x3 : Int) : fnBody Try.prog (mkTn base o14 t14 18) (TM.evF Try.prog (mkTn base o14 t14) dOk 40) dOk 40 18 [.agg [.int .i64 (x0), .d 5 (.int .u8) (x1), .d 44 (.pair (.int .i64) (.list 5 (.int .u8))) (x2)], .sc (.int .i64 (x3))] [] = (v18 x0 x1 x2 x3).bind fun r => some ([.sc (.d 5 (.int .u8) (r.1)), .sc (.int .i64 (r.2))], []) := by
  have h : fnBody Try.prog (mkTn base o14 t14 18) (TM.evF Try.prog (mkTn base o14 t14) dOk 40) dOk 40 18 [.agg [.int .i64 (x0), .d 5 (.int .u8) (x1), .d 44 (.pair (.int .i64) (.list 5 (.int .u8))) (x2)], .sc (.int .i64 (x3))] [] = (cond (ok (v24 x0 x1 x2)) (cond (!val (v24 x0 x1 x2)) (some ([.sc (.d 5 (.int .u8) ([])), .sc (.int .i64 ((1 : Int)))], [])) (cond (ok (v30 x0 x1 x2 x3)) (cond (!val (v30 x0 x1 x2 x3)) (some ([.sc (.d 5 (.int .u8) ([])), .sc (.int .i64 ((1 : Int)))], [])) (cond (ok (v33 x0 x1 x2 x2)) (cond (decide ((0 : Int) ≤ IntKind.wrap IntKind.i64 (x3 * x0))) (cond (decide ((0 : Int) ≤ IntKind.wrap IntKind.i64 (IntKind.wrap IntKind.i64 (x3 + (1 : Int)) * x0))) (cond (decide (Int.toNat (IntKind.wrap IntKind.i64 (x3 * x0)) ≤ Int.toNat (IntKind.wrap IntKind.i64 (IntKind.wrap IntKind.i64 (x3 + (1 : Int)) * x0)))) (cond (decide (Int.toNat (IntKind.wrap IntKind.i64 (IntKind.wrap IntKind.i64 (x3 + (1 : Int)) * x0)) ≤ Int.toNat (IntKind.wrap IntKind.i64 (IntKind.wrap IntKind.i64 (x3 + (1 : Int)) * x0)))) (cond (decide (Int.toNat (IntKind.wrap IntKind.i64 (IntKind.wrap IntKind.i64 (x3 + (1 : Int)) * x0)) ≤ List.length (val (v33 x0 x1 x2 x2)))) (cond (decide (List.length (List.drop (Int.toNat (IntKind.wrap IntKind.i64 (x3 * x0))) (List.take (Int.toNat (IntKind.wrap IntKind.i64 (IntKind.wrap IntKind.i64 (x3 + (1 : Int)) * x0))) (val (v33 x0 x1 x2 x2)))) ≤ nat_lit 2147483648)) (some ([.sc (.d 5 (.int .u8) (List.drop (Int.toNat (IntKind.wrap IntKind.i64 (x3 * x0))) (List.take (Int.toNat (IntKind.wrap IntKind.i64 (IntKind.wrap IntKind.i64 (x3 + (1 : Int)) * x0))) (val (v33 x0 x1 x2 x2))))), .sc (.int .i64 ((0 : Int)))], [])) none) none) none) none) none) none) none)) none)) none) := by kernel_rfl
  rw [h]
  unfold v18
  cases (ok (v24 x0 x1 x2)) with
  | true =>
    cases (!val (v24 x0 x1 x2)) with
    | true =>
      rfl
    | false =>
      cases (ok (v30 x0 x1 x2 x3)) with
      | true =>
        cases (!val (v30 x0 x1 x2 x3)) with
        | true =>
          rfl
        | false =>
          cases (ok (v33 x0 x1 x2 x2)) with
          | true =>
            cases (decide ((0 : Int) ≤ IntKind.wrap IntKind.i64 (x3 * x0))) with
            | true =>
              cases (decide ((0 : Int) ≤ IntKind.wrap IntKind.i64 (IntKind.wrap IntKind.i64 (x3 + (1 : Int)) * x0))) with
              | true =>
                cases (decide (Int.toNat (IntKind.wrap IntKind.i64 (x3 * x0)) ≤ Int.toNat (IntKind.wrap IntKind.i64 (IntKind.wrap IntKind.i64 (x3 + (1 : Int)) * x0)))) with
                | true =>
                  cases (decide (Int.toNat (IntKind.wrap IntKind.i64 (IntKind.wrap IntKind.i64 (x3 + (1 : Int)) * x0)) ≤ Int.toNat (IntKind.wrap IntKind.i64 (IntKind.wrap IntKind.i64 (x3 + (1 : Int)) * x0)))) with
                  | true =>
                    cases (decide (Int.toNat (IntKind.wrap IntKind.i64 (IntKind.wrap IntKind.i64 (x3 + (1 : Int)) * x0)) ≤ List.length (val (v33 x0 x1 x2 x2)))) with
                    | true =>
                      cases (decide (List.length (List.drop (Int.toNat (IntKind.wrap IntKind.i64 (x3 * x0))) (List.take (Int.toNat (IntKind.wrap IntKind.i64 (IntKind.wrap IntKind.i64 (x3 + (1 : Int)) * x0))) (val (v33 x0 x1 x2 x2)))) ≤ nat_lit 2147483648)) with
                      | true =>
                        rfl
                      | false =>
                        rfl
                    | false =>
                      rfl
                  | false =>
                    rfl
                | false =>
                  rfl
              | false =>
                rfl
            | false =>
              rfl
          | false =>
            rfl
      | false =>
        rfl
  | false =>
    rfl
def sv18 : OrcS := fun al H => match al, H with
  | [.agg [.int .i64 (x0), .d 5 (.int .u8) (x1), .d 44 (.pair (.int .i64) (.list 5 (.int .u8))) (x2)], .sc (.int .i64 (x3))], [] => some (ok (v18 x0 x1 x2 x3), [.sc (.d 5 (.int .u8) ((val (v18 x0 x1 x2 x3)).1)), .sc (.int .i64 ((val (v18 x0 x1 x2 x3)).2))], [])
  | _, _ => none
theorem wv18 : NewOrc Try.prog dOk base o14 t14 (18, sv18) := by
  intro al H q hq hq1
  have hq : sv18 al H = some q := hq
  unfold sv18 at hq
  split at hq
  · cases hq
    exact ⟨41, (ev18 _ _ _ _).trans (ok_bind hq1)⟩
  · cases hq
def o15 : OrcT := (14, sv14) :: (16, sv16) :: (18, sv18) :: o14
def t15 : TellT := t14
abbrev tn15 : FuncId → TAn := mkTn base o15 t15
theorem ok15 : TnOk Try.prog tn15 (mkA base) dOk := by
  have h0 : TnOk Try.prog (mkTn base o14 t14) (mkA base) dOk := ok14
  have h1 := tn_orc h0 h0 (p := (18, sv18)) wv18
  have h2 := tn_orc h0 h1 (p := (16, sv16)) wv16
  have h3 := tn_orc h0 h2 (p := (14, sv14)) wv14
  exact h3
end Go.Proofs.Ytchgjjgdgbecmaa
set_option maxRecDepth 1000000
set_option linter.unusedVariables false
set_option maxHeartbeats 4000000
namespace Go.Proofs.Ytchgjjgdgbecmaa
open Go Go.AM Go.TM Go.Proofs
/-- queuelablaw35.write: the loop 0 -/
def L29_0_0 : Nat → (List (Int × (Int × Int))) → Int → Int → Int → (List Int) → (List (Int × (List Int))) → Int → (List Int) → (List (Int × (List Int))) → Option ((Bool × Int × (List Int) × (List (Int × (List Int)))) ⊕ (Int × (List Int) × (List (Int × (List Int)))))
  | 0, _, _, _, _, _, _, _, _, _ => none
  | n + 1, x0, x1, x2, x3, x4, x5, x6, x7, x8 => (cond (decide (x2 < x1)) (cond (decide ((0 : Int) ≤ x2)) (cond (decide (x2 < (↑(List.length x0) : Int))) (cond (ok (v12 x3 x4 x5 (IntKind.wrap IntKind.i64 (Prod.fst (List.getD x0 (Int.toNat x2) ((0 : Int), (0 : Int), (0 : Int))))) [Prod.fst (Prod.snd (List.getD x0 (Int.toNat x2) ((0 : Int), (0 : Int), (0 : Int)))), Prod.snd (Prod.snd (List.getD x0 (Int.toNat x2) ((0 : Int), (0 : Int), (0 : Int))))])) (cond (Prod.snd (Prod.snd (Prod.snd (val (v12 x3 x4 x5 (IntKind.wrap IntKind.i64 (Prod.fst (List.getD x0 (Int.toNat x2) ((0 : Int), (0 : Int), (0 : Int))))) [Prod.fst (Prod.snd (List.getD x0 (Int.toNat x2) ((0 : Int), (0 : Int), (0 : Int)))), Prod.snd (Prod.snd (List.getD x0 (Int.toNat x2) ((0 : Int), (0 : Int), (0 : Int))))])))) != (0 : Int)) (some (.inl (false, x3, x4, x5))) (L29_0_0 n (x0) (x1) (IntKind.wrap IntKind.i64 (x2 + (1 : Int))) (Prod.fst (val (v12 x3 x4 x5 (IntKind.wrap IntKind.i64 (Prod.fst (List.getD x0 (Int.toNat x2) ((0 : Int), (0 : Int), (0 : Int))))) [Prod.fst (Prod.snd (List.getD x0 (Int.toNat x2) ((0 : Int), (0 : Int), (0 : Int)))), Prod.snd (Prod.snd (List.getD x0 (Int.toNat x2) ((0 : Int), (0 : Int), (0 : Int))))]))) (Prod.fst (Prod.snd (val (v12 x3 x4 x5 (IntKind.wrap IntKind.i64 (Prod.fst (List.getD x0 (Int.toNat x2) ((0 : Int), (0 : Int), (0 : Int))))) [Prod.fst (Prod.snd (List.getD x0 (Int.toNat x2) ((0 : Int), (0 : Int), (0 : Int)))), Prod.snd (Prod.snd (List.getD x0 (Int.toNat x2) ((0 : Int), (0 : Int), (0 : Int))))])))) (Prod.fst (Prod.snd (Prod.snd (val (v12 x3 x4 x5 (IntKind.wrap IntKind.i64 (Prod.fst (List.getD x0 (Int.toNat x2) ((0 : Int), (0 : Int), (0 : Int))))) [Prod.fst (Prod.snd (List.getD x0 (Int.toNat x2) ((0 : Int), (0 : Int), (0 : Int)))), Prod.snd (Prod.snd (List.getD x0 (Int.toNat x2) ((0 : Int), (0 : Int), (0 : Int))))]))))) (x6) (x7) (x8))) none) none) none) (some (.inr (x3, x4, x5))))
theorem qL29_0_0 (n : Nat) (x0 : (List (Int × (Int × Int)))) (x1 : Int) (x2 : Int) (x3 : Int) (x4 : (List Int)) (x5 : (List (Int × (List Int)))) (x6 : Int) (x7 : (List Int)) (x8 : (List (Int × (List Int)))) : L29_0_0 (n + 1) x0 x1 x2 x3 x4 x5 x6 x7 x8 = (cond (decide (x2 < x1)) (cond (decide ((0 : Int) ≤ x2)) (cond (decide (x2 < (↑(List.length x0) : Int))) (cond (ok (v12 x3 x4 x5 (IntKind.wrap IntKind.i64 (Prod.fst (List.getD x0 (Int.toNat x2) ((0 : Int), (0 : Int), (0 : Int))))) [Prod.fst (Prod.snd (List.getD x0 (Int.toNat x2) ((0 : Int), (0 : Int), (0 : Int)))), Prod.snd (Prod.snd (List.getD x0 (Int.toNat x2) ((0 : Int), (0 : Int), (0 : Int))))])) (cond (Prod.snd (Prod.snd (Prod.snd (val (v12 x3 x4 x5 (IntKind.wrap IntKind.i64 (Prod.fst (List.getD x0 (Int.toNat x2) ((0 : Int), (0 : Int), (0 : Int))))) [Prod.fst (Prod.snd (List.getD x0 (Int.toNat x2) ((0 : Int), (0 : Int), (0 : Int)))), Prod.snd (Prod.snd (List.getD x0 (Int.toNat x2) ((0 : Int), (0 : Int), (0 : Int))))])))) != (0 : Int)) (some (.inl (false, x3, x4, x5))) (L29_0_0 n (x0) (x1) (IntKind.wrap IntKind.i64 (x2 + (1 : Int))) (Prod.fst (val (v12 x3 x4 x5 (IntKind.wrap IntKind.i64 (Prod.fst (List.getD x0 (Int.toNat x2) ((0 : Int), (0 : Int), (0 : Int))))) [Prod.fst (Prod.snd (List.getD x0 (Int.toNat x2) ((0 : Int), (0 : Int), (0 : Int)))), Prod.snd (Prod.snd (List.getD x0 (Int.toNat x2) ((0 : Int), (0 : Int), (0 : Int))))]))) (Prod.fst (Prod.snd (val (v12 x3 x4 x5 (IntKind.wrap IntKind.i64 (Prod.fst (List.getD x0 (Int.toNat x2) ((0 : Int), (0 : Int), (0 : Int))))) [Prod.fst (Prod.snd (List.getD x0 (Int.toNat x2) ((0 : Int), (0 : Int), (0 : Int)))), Prod.snd (Prod.snd (List.getD x0 (Int.toNat x2) ((0 : Int), (0 : Int), (0 : Int))))])))) (Prod.fst (Prod.snd (Prod.snd (val (v12 x3 x4 x5 (IntKind.wrap IntKind.i64 (Prod.fst (List.getD x0 (Int.toNat x2) ((0 : Int), (0 : Int), (0 : Int))))) [Prod.fst (Prod.snd (List.getD x0 (Int.toNat x2) ((0 : Int), (0 : Int), (0 : Int)))), Prod.snd (Prod.snd (List.getD x0 (Int.toNat x2) ((0 : Int), (0 : Int), (0 : Int))))]))))) (x6) (x7) (x8))) none) none) none) (some (.inr (x3, x4, x5)))) := by rfl
def xL29_0_0 (x0 : (List (Int × (Int × Int)))) (x1 : Int) (x2 : Int) (x3 : Int) (x4 : (List Int)) (x5 : (List (Int × (List Int)))) (x6 : Int) (x7 : (List Int)) (x8 : (List (Int × (List Int)))) : ((Bool × Int × (List Int) × (List (Int × (List Int)))) ⊕ (Int × (List Int) × (List (Int × (List Int))))) → Ex × CS := fun r => match r with | .inl a0 => (.ret, { sl := [(2, .l 2 0), (4, .l 4 0), (5, .v (.sc (.bool (a0.1)))), (8, .l 8 0)], lo := [(4, [.int .i64 (a0.2.1), .d 5 (.int .u8) (a0.2.2.1), .d 44 (.pair (.int .i64) (.list 5 (.int .u8))) (a0.2.2.2)])], h := [], n0 := 0 }) | .inr b0 => ((.exit 0), { sl := [(2, .l 2 0), (4, .l 4 0)], lo := [(2, [.int .i64 (b0.1), .d 5 (.int .u8) (b0.2.1), .d 44 (.pair (.int .i64) (.list 5 (.int .u8))) (b0.2.2)]), (4, [.int .i64 (x6), .g 0, .g 1])], h := [.row 5 (.int .u8) (x7), .row 44 (.pair (.int .i64) (.list 5 (.int .u8))) (x8)], n0 := 0 })
theorem bL29_0_0 (k : Nat) (cN : CS → Option (Ex × CS)) (cX : Ex → CS → Option (Ex × CS)) (x0 : (List (Int × (Int × Int)))) (x1 : Int) (x2 : Int) (x3 : Int) (x4 : (List Int)) (x5 : (List (Int × (List Int)))) (x6 : Int) (x7 : (List Int)) (x8 : (List (Int × (List Int)))) : loopBody Try.prog (mkTn base o15 t15 29) (TM.evF Try.prog (mkTn base o15 t15) dOk (k + 40)) dOk (k + 40) (codeAt Try.prog (tn0 29) 29 0) 0 0 { sl := [(2, .l 2 0), (4, .l 4 0), (10, .v (.sc (.d 54 (.pair (.int .u8) (.pair (.int .u8) (.int .u8))) (x0)))), (11, .v (.sc (.int .i64 (x1)))), (12, .v (.sc (.int .i64 (x2))))], lo := [(2, [.int .i64 (x3), .d 5 (.int .u8) (x4), .d 44 (.pair (.int .i64) (.list 5 (.int .u8))) (x5)]), (4, [.int .i64 (x6), .g 0, .g 1])], h := [.row 5 (.int .u8) (x7), .row 44 (.pair (.int .i64) (.list 5 (.int .u8))) (x8)], n0 := 0 } cN cX = (cond (decide (x2 < x1)) (cond (decide ((0 : Int) ≤ x2)) (cond (decide (x2 < (↑(List.length x0) : Int))) (cond (ok (v12 x3 x4 x5 (IntKind.wrap IntKind.i64 (Prod.fst (List.getD x0 (Int.toNat x2) ((0 : Int), (0 : Int), (0 : Int))))) [Prod.fst (Prod.snd (List.getD x0 (Int.toNat x2) ((0 : Int), (0 : Int), (0 : Int)))), Prod.snd (Prod.snd (List.getD x0 (Int.toNat x2) ((0 : Int), (0 : Int), (0 : Int))))])) (cond (Prod.snd (Prod.snd (Prod.snd (val (v12 x3 x4 x5 (IntKind.wrap IntKind.i64 (Prod.fst (List.getD x0 (Int.toNat x2) ((0 : Int), (0 : Int), (0 : Int))))) [Prod.fst (Prod.snd (List.getD x0 (Int.toNat x2) ((0 : Int), (0 : Int), (0 : Int)))), Prod.snd (Prod.snd (List.getD x0 (Int.toNat x2) ((0 : Int), (0 : Int), (0 : Int))))])))) != (0 : Int)) (cX .ret { sl := [(2, .l 2 0), (4, .l 4 0), (5, .v (.sc (.bool (false)))), (8, .l 8 0)], lo := [(4, [.int .i64 (x3), .d 5 (.int .u8) (x4), .d 44 (.pair (.int .i64) (.list 5 (.int .u8))) (x5)])], h := [], n0 := 0 }) (cN { sl := [(2, .l 2 0), (4, .l 4 0), (10, .v (.sc (.d 54 (.pair (.int .u8) (.pair (.int .u8) (.int .u8))) (x0)))), (11, .v (.sc (.int .i64 (x1)))), (12, .v (.sc (.int .i64 (IntKind.wrap IntKind.i64 (x2 + (1 : Int))))))], lo := [(2, [.int .i64 (Prod.fst (val (v12 x3 x4 x5 (IntKind.wrap IntKind.i64 (Prod.fst (List.getD x0 (Int.toNat x2) ((0 : Int), (0 : Int), (0 : Int))))) [Prod.fst (Prod.snd (List.getD x0 (Int.toNat x2) ((0 : Int), (0 : Int), (0 : Int)))), Prod.snd (Prod.snd (List.getD x0 (Int.toNat x2) ((0 : Int), (0 : Int), (0 : Int))))]))), .d 5 (.int .u8) (Prod.fst (Prod.snd (val (v12 x3 x4 x5 (IntKind.wrap IntKind.i64 (Prod.fst (List.getD x0 (Int.toNat x2) ((0 : Int), (0 : Int), (0 : Int))))) [Prod.fst (Prod.snd (List.getD x0 (Int.toNat x2) ((0 : Int), (0 : Int), (0 : Int)))), Prod.snd (Prod.snd (List.getD x0 (Int.toNat x2) ((0 : Int), (0 : Int), (0 : Int))))])))), .d 44 (.pair (.int .i64) (.list 5 (.int .u8))) (Prod.fst (Prod.snd (Prod.snd (val (v12 x3 x4 x5 (IntKind.wrap IntKind.i64 (Prod.fst (List.getD x0 (Int.toNat x2) ((0 : Int), (0 : Int), (0 : Int))))) [Prod.fst (Prod.snd (List.getD x0 (Int.toNat x2) ((0 : Int), (0 : Int), (0 : Int)))), Prod.snd (Prod.snd (List.getD x0 (Int.toNat x2) ((0 : Int), (0 : Int), (0 : Int))))])))))]), (4, [.int .i64 (x6), .g 0, .g 1])], h := [.row 5 (.int .u8) (x7), .row 44 (.pair (.int .i64) (.list 5 (.int .u8))) (x8)], n0 := 0 })) none) none) none) (cX (.exit 0) { sl := [(2, .l 2 0), (4, .l 4 0)], lo := [(2, [.int .i64 (x3), .d 5 (.int .u8) (x4), .d 44 (.pair (.int .i64) (.list 5 (.int .u8))) (x5)]), (4, [.int .i64 (x6), .g 0, .g 1])], h := [.row 5 (.int .u8) (x7), .row 44 (.pair (.int .i64) (.list 5 (.int .u8))) (x8)], n0 := 0 })) := by kernel_rfl
theorem lL29_0_0 (k m : Nat) : ∀ (n : Nat) (x0 : (List (Int × (Int × Int)))) (x1 : Int) (x2 : Int) (x3 : Int) (x4 : (List Int)) (x5 : (List (Int × (List Int)))) (x6 : Int) (x7 : (List Int)) (x8 : (List (Int × (List Int)))) (r : ((Bool × Int × (List Int) × (List (Int × (List Int)))) ⊕ (Int × (List Int) × (List (Int × (List Int)))))), L29_0_0 n x0 x1 x2 x3 x4 x5 x6 x7 x8 = some r → loopE Try.prog (mkTn base o15 t15 29) (TM.evF Try.prog (mkTn base o15 t15) dOk (k + 40)) dOk (k + 40) (codeAt Try.prog (tn0 29) 29 0) 0 0 (n + m) { sl := [(2, .l 2 0), (4, .l 4 0), (10, .v (.sc (.d 54 (.pair (.int .u8) (.pair (.int .u8) (.int .u8))) (x0)))), (11, .v (.sc (.int .i64 (x1)))), (12, .v (.sc (.int .i64 (x2))))], lo := [(2, [.int .i64 (x3), .d 5 (.int .u8) (x4), .d 44 (.pair (.int .i64) (.list 5 (.int .u8))) (x5)]), (4, [.int .i64 (x6), .g 0, .g 1])], h := [.row 5 (.int .u8) (x7), .row 44 (.pair (.int .i64) (.list 5 (.int .u8))) (x8)], n0 := 0 } = some (xL29_0_0 x0 x1 x2 x3 x4 x5 x6 x7 x8 r) := by
  intro n
  induction n with
  | zero => intro _ _ _ _ _ _ _ _ _ r h; cases h
  | succ n ih =>
    intro x0 x1 x2 x3 x4 x5 x6 x7 x8 r
    rw [show n + 1 + m = n + m + 1 by omega, loop_step, bL29_0_0, qL29_0_0]
    cases (decide (x2 < x1)) with
    | true =>
      cases (decide ((0 : Int) ≤ x2)) with
      | true =>
        cases (decide (x2 < (↑(List.length x0) : Int))) with
        | true =>
          cases (ok (v12 x3 x4 x5 (IntKind.wrap IntKind.i64 (Prod.fst (List.getD x0 (Int.toNat x2) ((0 : Int), (0 : Int), (0 : Int))))) [Prod.fst (Prod.snd (List.getD x0 (Int.toNat x2) ((0 : Int), (0 : Int), (0 : Int)))), Prod.snd (Prod.snd (List.getD x0 (Int.toNat x2) ((0 : Int), (0 : Int), (0 : Int))))])) with
          | true =>
            cases (Prod.snd (Prod.snd (Prod.snd (val (v12 x3 x4 x5 (IntKind.wrap IntKind.i64 (Prod.fst (List.getD x0 (Int.toNat x2) ((0 : Int), (0 : Int), (0 : Int))))) [Prod.fst (Prod.snd (List.getD x0 (Int.toNat x2) ((0 : Int), (0 : Int), (0 : Int)))), Prod.snd (Prod.snd (List.getD x0 (Int.toNat x2) ((0 : Int), (0 : Int), (0 : Int))))])))) != (0 : Int)) with
            | true =>
              intro h; cases h; rfl
            | false =>
              exact ih _ _ _ _ _ _ _ _ _ r
          | false =>
            intro h; cases h
        | false =>
          intro h; cases h
      | false =>
        intro h; cases h
    | false =>
      intro h; cases h; rfl
def sL29_0_0 : TellS := fun S => match S with
  | { sl := [(2, .l 2 0), (4, .l 4 0), (10, .v (.sc (.d 54 (.pair (.int .u8) (.pair (.int .u8) (.int .u8))) (x0)))), (11, .v (.sc (.int .i64 (x1)))), (12, .v (.sc (.int .i64 (x2))))], lo := [(2, [.int .i64 (x3), .d 5 (.int .u8) (x4), .d 44 (.pair (.int .i64) (.list 5 (.int .u8))) (x5)]), (4, [.int .i64 (x6), .g 0, .g 1])], h := [.row 5 (.int .u8) (x7), .row 44 (.pair (.int .i64) (.list 5 (.int .u8))) (x8)], n0 := 0 } => some [(isL (L29_0_0 FU x0 x1 x2 x3 x4 x5 x6 x7 x8), .ret, { sl := [(2, .l 2 0), (4, .l 4 0), (5, .v (.sc (.bool ((getL (L29_0_0 FU x0 x1 x2 x3 x4 x5 x6 x7 x8)).1)))), (8, .l 8 0)], lo := [(4, [.int .i64 ((getL (L29_0_0 FU x0 x1 x2 x3 x4 x5 x6 x7 x8)).2.1), .d 5 (.int .u8) ((getL (L29_0_0 FU x0 x1 x2 x3 x4 x5 x6 x7 x8)).2.2.1), .d 44 (.pair (.int .i64) (.list 5 (.int .u8))) ((getL (L29_0_0 FU x0 x1 x2 x3 x4 x5 x6 x7 x8)).2.2.2)])], h := [], n0 := 0 }), (ok (getR (L29_0_0 FU x0 x1 x2 x3 x4 x5 x6 x7 x8)), (.exit 0), { sl := [(2, .l 2 0), (4, .l 4 0)], lo := [(2, [.int .i64 ((val (getR (L29_0_0 FU x0 x1 x2 x3 x4 x5 x6 x7 x8))).1), .d 5 (.int .u8) ((val (getR (L29_0_0 FU x0 x1 x2 x3 x4 x5 x6 x7 x8))).2.1), .d 44 (.pair (.int .i64) (.list 5 (.int .u8))) ((val (getR (L29_0_0 FU x0 x1 x2 x3 x4 x5 x6 x7 x8))).2.2)]), (4, [.int .i64 (x6), .g 0, .g 1])], h := [.row 5 (.int .u8) (x7), .row 44 (.pair (.int .i64) (.list 5 (.int .u8))) (x8)], n0 := 0 })]
  | _ => none
theorem wL29_0_0 : NewTell Try.prog dOk base o15 t15 ((29, 0), sL29_0_0) := by
  refine ⟨.loop (codeAt Try.prog (tn0 29) 29 0), 0, by kernel_rfl, ?_⟩
  intro S alts e S' h1 h2
  have h1 : sL29_0_0 S = some alts := h1
  unfold sL29_0_0 at h1
  split at h1
  · cases h1
    rcases pick_cons h2 with ⟨hc0, rfl, rfl⟩ | h2
    · exact ⟨FU + 40, (evPiece_loop rfl).trans (lL29_0_0 FU 40 FU _ _ _ _ _ _ _ _ _ _ (isL_val hc0))⟩
    obtain ⟨hc1, rfl, rfl⟩ := pick_one h2
    exact ⟨FU + 40, (evPiece_loop rfl).trans (lL29_0_0 FU 40 FU _ _ _ _ _ _ _ _ _ _ (getR_val (ok_val hc1)))⟩
  · cases h1
def o16 : OrcT := o15
def t16 : TellT := ((29, 0), sL29_0_0) :: t15
abbrev tn16 : FuncId → TAn := mkTn base o16 t16
theorem ok16 : TnOk Try.prog tn16 (mkA base) dOk := by
  have h0 : TnOk Try.prog (mkTn base o15 t15) (mkA base) dOk := ok15
  have h1 := tn_tell h0 h0 (p := ((29, 0), sL29_0_0)) wL29_0_0
  exact h1
end Go.Proofs.Ytchgjjgdgbecmaa
set_option maxRecDepth 1000000
set_option linter.unusedVariables false
set_option maxHeartbeats 4000000
namespace Go.Proofs.Ytchgjjgdgbecmaa
open Go Go.AM Go.TM Go.Proofs
/-- queuelablaw35.write -/
def v29 (x0 : Int) (x1 : (List Int)) (x2 : (List (Int × (List Int)))) (x3 : (List (Int × (Int × Int)))) : Option (Int × (List Int) × (List (Int × (List Int))) × Bool) := (cond (isL (L29_0_0 FU x3 (↑(List.length x3) : Int) (0 : Int) x0 x1 x2 (0 : Int) [] [])) (some (Prod.fst (Prod.snd (getL (L29_0_0 FU x3 (↑(List.length x3) : Int) (0 : Int) x0 x1 x2 (0 : Int) [] []))), Prod.fst (Prod.snd (Prod.snd (getL (L29_0_0 FU x3 (↑(List.length x3) : Int) (0 : Int) x0 x1 x2 (0 : Int) [] [])))), Prod.snd (Prod.snd (Prod.snd (getL (L29_0_0 FU x3 (↑(List.length x3) : Int) (0 : Int) x0 x1 x2 (0 : Int) [] [])))), Prod.fst (getL (L29_0_0 FU x3 (↑(List.length x3) : Int) (0 : Int) x0 x1 x2 (0 : Int) [] [])))) (cond (ok (getR (L29_0_0 FU x3 (↑(List.length x3) : Int) (0 : Int) x0 x1 x2 (0 : Int) [] []))) (some (Prod.fst (val (getR (L29_0_0 FU x3 (↑(List.length x3) : Int) (0 : Int) x0 x1 x2 (0 : Int) [] []))), Prod.fst (Prod.snd (val (getR (L29_0_0 FU x3 (↑(List.length x3) : Int) (0 : Int) x0 x1 x2 (0 : Int) [] [])))), Prod.snd (Prod.snd (val (getR (L29_0_0 FU x3 (↑(List.length x3) : Int) (0 : Int) x0 x1 x2 (0 : Int) [] [])))), true)) none))
theorem ev29 (x0 : Int) (x1 : (List Int)) (x2 : (List (Int × (List Int)))) (x3 : (List (Int × (Int × Int)))) : fnBody Try.prog (mkTn base o16 t16 29) (TM.evF Try.prog (mkTn base o16 t16) dOk 40) dOk 40 29 [.agg [.int .i64 (x0), .d 5 (.int .u8) (x1), .d 44 (.pair (.int .i64) (.list 5 (.int .u8))) (x2)], .sc (.d 54 (.pair (.int .u8) (.pair (.int .u8) (.int .u8))) (x3))] [] = (v29 x0 x1 x2 x3).bind fun r => some ([.agg [.int .i64 (r.1), .d 5 (.int .u8) (r.2.1), .d 44 (.pair (.int .i64) (.list 5 (.int .u8))) (r.2.2.1)], .sc (.bool (r.2.2.2))], []) := by
  have h : fnBody Try.prog (mkTn base o16 t16 29) (TM.evF Try.prog (mkTn base o16 t16) dOk 40) dOk 40 29 [.agg [.int .i64 (x0), .d 5 (.int .u8) (x1), .d 44 (.pair (.int .i64) (.list 5 (.int .u8))) (x2)], .sc (.d 54 (.pair (.int .u8) (.pair (.int .u8) (.int .u8))) (x3))] [] = (cond (isL (L29_0_0 FU x3 (↑(List.length x3) : Int) (0 : Int) x0 x1 x2 (0 : Int) [] [])) (some ([.agg [.int .i64 (Prod.fst (Prod.snd (getL (L29_0_0 FU x3 (↑(List.length x3) : Int) (0 : Int) x0 x1 x2 (0 : Int) [] [])))), .d 5 (.int .u8) (Prod.fst (Prod.snd (Prod.snd (getL (L29_0_0 FU x3 (↑(List.length x3) : Int) (0 : Int) x0 x1 x2 (0 : Int) [] []))))), .d 44 (.pair (.int .i64) (.list 5 (.int .u8))) (Prod.snd (Prod.snd (Prod.snd (getL (L29_0_0 FU x3 (↑(List.length x3) : Int) (0 : Int) x0 x1 x2 (0 : Int) [] [])))))], .sc (.bool (Prod.fst (getL (L29_0_0 FU x3 (↑(List.length x3) : Int) (0 : Int) x0 x1 x2 (0 : Int) [] []))))], [])) (cond (ok (getR (L29_0_0 FU x3 (↑(List.length x3) : Int) (0 : Int) x0 x1 x2 (0 : Int) [] []))) (some ([.agg [.int .i64 (Prod.fst (val (getR (L29_0_0 FU x3 (↑(List.length x3) : Int) (0 : Int) x0 x1 x2 (0 : Int) [] [])))), .d 5 (.int .u8) (Prod.fst (Prod.snd (val (getR (L29_0_0 FU x3 (↑(List.length x3) : Int) (0 : Int) x0 x1 x2 (0 : Int) [] []))))), .d 44 (.pair (.int .i64) (.list 5 (.int .u8))) (Prod.snd (Prod.snd (val (getR (L29_0_0 FU x3 (↑(List.length x3) : Int) (0 : Int) x0 x1 x2 (0 : Int) [] [])))))], .sc (.bool (true))], [])) none)) := by kernel_rfl
  rw [h]
  unfold v29
  cases (isL (L29_0_0 FU x3 (↑(List.length x3) : Int) (0 : Int) x0 x1 x2 (0 : Int) [] [])) with
  | true =>
    rfl
  | false =>
    cases (ok (getR (L29_0_0 FU x3 (↑(List.length x3) : Int) (0 : Int) x0 x1 x2 (0 : Int) [] []))) with
    | true =>
      rfl
    | false =>
      rfl
def sv29 : OrcS := fun al H => match al, H with
  | [.agg [.int .i64 (x0), .d 5 (.int .u8) (x1), .d 44 (.pair (.int .i64) (.list 5 (.int .u8))) (x2)], .sc (.d 54 (.pair (.int .u8) (.pair (.int .u8) (.int .u8))) (x3))], [] => some (ok (v29 x0 x1 x2 x3), [.agg [.int .i64 ((val (v29 x0 x1 x2 x3)).1), .d 5 (.int .u8) ((val (v29 x0 x1 x2 x3)).2.1), .d 44 (.pair (.int .i64) (.list 5 (.int .u8))) ((val (v29 x0 x1 x2 x3)).2.2.1)], .sc (.bool ((val (v29 x0 x1 x2 x3)).2.2.2))], [])
  | _, _ => none
theorem wv29 : NewOrc Try.prog dOk base o16 t16 (29, sv29) := by
  intro al H q hq hq1
  have hq : sv29 al H = some q := hq
  unfold sv29 at hq
  split at hq
  · cases hq
    exact ⟨41, (ev29 _ _ _ _).trans (ok_bind hq1)⟩
  · cases hq
def o17 : OrcT := (29, sv29) :: o16
def t17 : TellT := t16
abbrev tn17 : FuncId → TAn := mkTn base o17 t17
theorem ok17 : TnOk Try.prog tn17 (mkA base) dOk := by
  have h0 : TnOk Try.prog (mkTn base o16 t16) (mkA base) dOk := ok16
  have h1 := tn_orc h0 h0 (p := (29, sv29)) wv29
  exact h1
end Go.Proofs.Ytchgjjgdgbecmaa
set_option maxRecDepth 1000000
set_option linter.unusedVariables false
set_option maxHeartbeats 4000000
namespace Go.Proofs.Ytchgjjgdgbecmaa
open Go Go.AM Go.TM Go.Proofs
/-- queuelablaw35.head -/
def v10 : Option Bool := (some (true))
theorem ev10 : fnBody Try.prog (mkTn base o17 t17 10) (TM.evF Try.prog (mkTn base o17 t17) dOk 40) dOk 40 10 [] [] = (v10).bind fun r => some ([.sc (.bool (r))], []) := by
  have h : fnBody Try.prog (mkTn base o17 t17 10) (TM.evF Try.prog (mkTn base o17 t17) dOk 40) dOk 40 10 [] [] = (some ([.sc (.bool (true))], [])) := by kernel_rfl
  rw [h]
  unfold v10
  rfl
def sv10 : OrcS := fun al H => match al, H with
  | [], [] => some (ok (v10), [.sc (.bool ((val (v10))))], [])
  | _, _ => none
theorem wv10 : NewOrc Try.prog dOk base o17 t17 (10, sv10) := by
  intro al H q hq hq1
  have hq : sv10 al H = some q := hq
  unfold sv10 at hq
  split at hq
  · cases hq
    exact ⟨41, (ev10 ).trans (ok_bind hq1)⟩
  · cases hq
def o18 : OrcT := (10, sv10) :: o17
def t18 : TellT := t17
abbrev tn18 : FuncId → TAn := mkTn base o18 t18
theorem ok18 : TnOk Try.prog tn18 (mkA base) dOk := by
  have h0 : TnOk Try.prog (mkTn base o17 t17) (mkA base) dOk := ok17
  have h1 := tn_orc h0 h0 (p := (10, sv10)) wv10
  exact h1
end Go.Proofs.Ytchgjjgdgbecmaa
set_option maxRecDepth 1000000
set_option linter.unusedVariables false
set_option maxHeartbeats 4000000
namespace Go.Proofs.Ytchgjjgdgbecmaa
open Go Go.AM Go.TM Go.Proofs
/-- queuelablaw35.usable -/
def v26 (x0 : Int) (x1 : (List Int)) (x2 : (List (Int × (List Int)))) : Option Bool := (cond (ok (v11 x0 x1 x2)) (cond (val (v11 x0 x1 x2)) (cond (ok (v25 x0 x1 x2)) (some (val (v25 x0 x1 x2))) none) (some (false))) none)
theorem ev26 (x0 : Int) (x1 : (List Int)) (x2 : (List (Int × (List Int)))) : fnBody Try.prog (mkTn base o18 t18 26) (TM.evF Try.prog (mkTn base o18 t18) dOk 40) dOk 40 26 [.agg [.int .i64 (x0), .d 5 (.int .u8) (x1), .d 44 (.pair (.int .i64) (.list 5 (.int .u8))) (x2)]] [] = (v26 x0 x1 x2).bind fun r => some ([.sc (.bool (r))], []) := by
  have h : fnBody Try.prog (mkTn base o18 t18 26) (TM.evF Try.prog (mkTn base o18 t18) dOk 40) dOk 40 26 [.agg [.int .i64 (x0), .d 5 (.int .u8) (x1), .d 44 (.pair (.int .i64) (.list 5 (.int .u8))) (x2)]] [] = (cond (ok (v11 x0 x1 x2)) (cond (val (v11 x0 x1 x2)) (cond (ok (v25 x0 x1 x2)) (some ([.sc (.bool (val (v25 x0 x1 x2)))], [])) none) (some ([.sc (.bool (false))], []))) none) := by kernel_rfl
  rw [h]
  unfold v26
  cases (ok (v11 x0 x1 x2)) with
  | true =>
    cases (val (v11 x0 x1 x2)) with
    | true =>
      cases (ok (v25 x0 x1 x2)) with
      | true =>
        rfl
      | false =>
        rfl
    | false =>
      rfl
  | false =>
    rfl
def sv26 : OrcS := fun al H => match al, H with
  | [.agg [.int .i64 (x0), .d 5 (.int .u8) (x1), .d 44 (.pair (.int .i64) (.list 5 (.int .u8))) (x2)]], [] => some (ok (v26 x0 x1 x2), [.sc (.bool ((val (v26 x0 x1 x2))))], [])
  | _, _ => none
theorem wv26 : NewOrc Try.prog dOk base o18 t18 (26, sv26) := by
  intro al H q hq hq1
  have hq : sv26 al H = some q := hq
  unfold sv26 at hq
  split at hq
  · cases hq
    exact ⟨41, (ev26 _ _ _).trans (ok_bind hq1)⟩
  · cases hq
def o19 : OrcT := (26, sv26) :: o18
def t19 : TellT := t18
abbrev tn19 : FuncId → TAn := mkTn base o19 t19
theorem ok19 : TnOk Try.prog tn19 (mkA base) dOk := by
  have h0 : TnOk Try.prog (mkTn base o18 t18) (mkA base) dOk := ok18
  have h1 := tn_orc h0 h0 (p := (26, sv26)) wv26
  exact h1
end Go.Proofs.Ytchgjjgdgbecmaa
set_option maxRecDepth 1000000
set_option linter.unusedVariables false
set_option maxHeartbeats 4000000
namespace Go.Proofs.Ytchgjjgdgbecmaa
open Go Go.AM Go.TM Go.Proofs
/-- queuelablaw35.DiskAll: the loop 0 -/
def L6_0_0 : Nat → Int → Bool → Int → Int → Int → Int → (List Int) → (List (Int × (List Int))) → (List Bool) → (List Bool) → Option (List Bool)
  | 0, _, _, _, _, _, _, _, _, _, _ => none
  | n + 1, x0, x1, x2, x3, x4, x5, x6, x7, x8, x9 => (cond (decide (x4 < x3)) (cond (decide ((0 : Int) ≤ x4)) (cond (decide (x4 < (↑(List.length x8) : Int))) (cond (decide (Int.toNat x4 < List.length x8)) (L6_0_0 n (x0) (x1) (x2) (x3) (IntKind.wrap IntKind.i64 (x4 + (1 : Int))) (x5) (x6) (x7) (List.set x8 (Int.toNat x4) true) (x9)) none) none) none) (some (x8)))
theorem qL6_0_0 (n : Nat) (x0 : Int) (x1 : Bool) (x2 : Int) (x3 : Int) (x4 : Int) (x5 : Int) (x6 : (List Int)) (x7 : (List (Int × (List Int)))) (x8 : (List Bool)) (x9 : (List Bool)) : L6_0_0 (n + 1) x0 x1 x2 x3 x4 x5 x6 x7 x8 x9 = (cond (decide (x4 < x3)) (cond (decide ((0 : Int) ≤ x4)) (cond (decide (x4 < (↑(List.length x8) : Int))) (cond (decide (Int.toNat x4 < List.length x8)) (L6_0_0 n (x0) (x1) (x2) (x3) (IntKind.wrap IntKind.i64 (x4 + (1 : Int))) (x5) (x6) (x7) (List.set x8 (Int.toNat x4) true) (x9)) none) none) none) (some (x8))) := by rfl
def xL6_0_0 (x0 : Int) (x1 : Bool) (x2 : Int) (x3 : Int) (x4 : Int) (x5 : Int) (x6 : (List Int)) (x7 : (List (Int × (List Int)))) (x8 : (List Bool)) (x9 : (List Bool)) : (List Bool) → Ex × CS := fun r => ((.exit 0), { sl := [(1, .v (.sc (.int .u8 (x0)))), (2, .l 2 0), (5, .v (.sc (.bool (x1)))), (6, .v (.sc (.int .i64 (x2)))), (7, .v (.sc (.g 1))), (8, .v (.sc (.g 0)))], lo := [(2, [.int .i64 (x5), .d 5 (.int .u8) (x6), .d 44 (.pair (.int .i64) (.list 5 (.int .u8))) (x7)])], h := [.row 4 .bool (r), .row 4 .bool (x9)], n0 := 0 })
theorem bL6_0_0 (k : Nat) (cN : CS → Option (Ex × CS)) (cX : Ex → CS → Option (Ex × CS)) (x0 : Int) (x1 : Bool) (x2 : Int) (x3 : Int) (x4 : Int) (x5 : Int) (x6 : (List Int)) (x7 : (List (Int × (List Int)))) (x8 : (List Bool)) (x9 : (List Bool)) : loopBody Try.prog (mkTn base o19 t19 6) (TM.evF Try.prog (mkTn base o19 t19) dOk (k + 40)) dOk (k + 40) (codeAt Try.prog (tn0 6) 6 0) 0 0 { sl := [(1, .v (.sc (.int .u8 (x0)))), (2, .l 2 0), (5, .v (.sc (.bool (x1)))), (6, .v (.sc (.int .i64 (x2)))), (7, .v (.sc (.g 1))), (8, .v (.sc (.g 0))), (34, .v (.sc (.int .i64 (x3)))), (35, .v (.sc (.int .i64 (x4))))], lo := [(2, [.int .i64 (x5), .d 5 (.int .u8) (x6), .d 44 (.pair (.int .i64) (.list 5 (.int .u8))) (x7)])], h := [.row 4 .bool (x8), .row 4 .bool (x9)], n0 := 0 } cN cX = (cond (decide (x4 < x3)) (cond (decide ((0 : Int) ≤ x4)) (cond (decide (x4 < (↑(List.length x8) : Int))) (cond (decide (Int.toNat x4 < List.length x8)) (cN { sl := [(1, .v (.sc (.int .u8 (x0)))), (2, .l 2 0), (5, .v (.sc (.bool (x1)))), (6, .v (.sc (.int .i64 (x2)))), (7, .v (.sc (.g 1))), (8, .v (.sc (.g 0))), (34, .v (.sc (.int .i64 (x3)))), (35, .v (.sc (.int .i64 (IntKind.wrap IntKind.i64 (x4 + (1 : Int))))))], lo := [(2, [.int .i64 (x5), .d 5 (.int .u8) (x6), .d 44 (.pair (.int .i64) (.list 5 (.int .u8))) (x7)])], h := [.row 4 .bool (List.set x8 (Int.toNat x4) true), .row 4 .bool (x9)], n0 := 0 }) none) none) none) (cX (.exit 0) { sl := [(1, .v (.sc (.int .u8 (x0)))), (2, .l 2 0), (5, .v (.sc (.bool (x1)))), (6, .v (.sc (.int .i64 (x2)))), (7, .v (.sc (.g 1))), (8, .v (.sc (.g 0)))], lo := [(2, [.int .i64 (x5), .d 5 (.int .u8) (x6), .d 44 (.pair (.int .i64) (.list 5 (.int .u8))) (x7)])], h := [.row 4 .bool (x8), .row 4 .bool (x9)], n0 := 0 })) := by kernel_rfl
theorem lL6_0_0 (k m : Nat) : ∀ (n : Nat) (x0 : Int) (x1 : Bool) (x2 : Int) (x3 : Int) (x4 : Int) (x5 : Int) (x6 : (List Int)) (x7 : (List (Int × (List Int)))) (x8 : (List Bool)) (x9 : (List Bool)) (r : (List Bool)), L6_0_0 n x0 x1 x2 x3 x4 x5 x6 x7 x8 x9 = some r → loopE Try.prog (mkTn base o19 t19 6) (TM.evF Try.prog (mkTn base o19 t19) dOk (k + 40)) dOk (k + 40) (codeAt Try.prog (tn0 6) 6 0) 0 0 (n + m) { sl := [(1, .v (.sc (.int .u8 (x0)))), (2, .l 2 0), (5, .v (.sc (.bool (x1)))), (6, .v (.sc (.int .i64 (x2)))), (7, .v (.sc (.g 1))), (8, .v (.sc (.g 0))), (34, .v (.sc (.int .i64 (x3)))), (35, .v (.sc (.int .i64 (x4))))], lo := [(2, [.int .i64 (x5), .d 5 (.int .u8) (x6), .d 44 (.pair (.int .i64) (.list 5 (.int .u8))) (x7)])], h := [.row 4 .bool (x8), .row 4 .bool (x9)], n0 := 0 } = some (xL6_0_0 x0 x1 x2 x3 x4 x5 x6 x7 x8 x9 r) := by
  intro n
  induction n with
  | zero => intro _ _ _ _ _ _ _ _ _ _ r h; cases h
  | succ n ih =>
    intro x0 x1 x2 x3 x4 x5 x6 x7 x8 x9 r
    rw [show n + 1 + m = n + m + 1 by omega, loop_step, bL6_0_0, qL6_0_0]
    cases (decide (x4 < x3)) with
    | true =>
      cases (decide ((0 : Int) ≤ x4)) with
      | true =>
        cases (decide (x4 < (↑(List.length x8) : Int))) with
        | true =>
          cases (decide (Int.toNat x4 < List.length x8)) with
          | true =>
            exact ih _ _ _ _ _ _ _ _ _ _ r
          | false =>
            intro h; cases h
        | false =>
          intro h; cases h
      | false =>
        intro h; cases h
    | false =>
      intro h; cases h; rfl
def sL6_0_0 : TellS := fun S => match S with
  | { sl := [(1, .v (.sc (.int .u8 (x0)))), (2, .l 2 0), (5, .v (.sc (.bool (x1)))), (6, .v (.sc (.int .i64 (x2)))), (7, .v (.sc (.g 1))), (8, .v (.sc (.g 0))), (34, .v (.sc (.int .i64 (x3)))), (35, .v (.sc (.int .i64 (x4))))], lo := [(2, [.int .i64 (x5), .d 5 (.int .u8) (x6), .d 44 (.pair (.int .i64) (.list 5 (.int .u8))) (x7)])], h := [.row 4 .bool (x8), .row 4 .bool (x9)], n0 := 0 } => some [(ok (L6_0_0 FU x0 x1 x2 x3 x4 x5 x6 x7 x8 x9), (.exit 0), { sl := [(1, .v (.sc (.int .u8 (x0)))), (2, .l 2 0), (5, .v (.sc (.bool (x1)))), (6, .v (.sc (.int .i64 (x2)))), (7, .v (.sc (.g 1))), (8, .v (.sc (.g 0)))], lo := [(2, [.int .i64 (x5), .d 5 (.int .u8) (x6), .d 44 (.pair (.int .i64) (.list 5 (.int .u8))) (x7)])], h := [.row 4 .bool ((val (L6_0_0 FU x0 x1 x2 x3 x4 x5 x6 x7 x8 x9))), .row 4 .bool (x9)], n0 := 0 })]
  | _ => none
theorem wL6_0_0 : NewTell Try.prog dOk base o19 t19 ((6, 0), sL6_0_0) := by
  refine ⟨.loop (codeAt Try.prog (tn0 6) 6 0), 0, by kernel_rfl, ?_⟩
  intro S alts e S' h1 h2
  have h1 : sL6_0_0 S = some alts := h1
  unfold sL6_0_0 at h1
  split at h1
  · cases h1
    obtain ⟨hc0, rfl, rfl⟩ := pick_one h2
    exact ⟨FU + 40, (evPiece_loop rfl).trans (lL6_0_0 FU 40 FU _ _ _ _ _ _ _ _ _ _ _ (ok_val hc0))⟩
  · cases h1
def o20 : OrcT := o19
def t20 : TellT := ((6, 0), sL6_0_0) :: t19
abbrev tn20 : FuncId → TAn := mkTn base o20 t20
theorem ok20 : TnOk Try.prog tn20 (mkA base) dOk := by
  have h0 : TnOk Try.prog (mkTn base o19 t19) (mkA base) dOk := ok19
  have h1 := tn_tell h0 h0 (p := ((6, 0), sL6_0_0)) wL6_0_0
  exact h1
end Go.Proofs.Ytchgjjgdgbecmaa
set_option maxRecDepth 1000000
set_option linter.unusedVariables false
set_option maxHeartbeats 4000000
namespace Go.Proofs.Ytchgjjgdgbecmaa
open Go Go.AM Go.TM Go.Proofs
/-- queuelablaw35.DiskAll: the piece 132 -/
def L6_132_0 (x0 : Bool) (x1 : Int) (x2 : Int) (x3 : Int) (x4 : Int) (x5 : Int) (x6 : Int) (x7 : (List Int)) (x8 : (List (Int × (List Int)))) (x9 : Int) (x10 : (List Int)) (x11 : (List (Int × (List Int)))) (x12 : Int) (x13 : (List Int)) (x14 : (List (Int × (List Int)))) (x15 : Int) (x16 : (List Int)) (x17 : (List (Int × (List Int)))) (x18 : Int) (x19 : (List Int)) (x20 : (List (Int × (List Int)))) (x21 : Int) (x22 : (List Int)) (x23 : (List (Int × (List Int)))) : Option Bool := (cond (x0) (cond (x1 == (0 : Int)) (cond (x2 == (0 : Int)) (cond (x3 == (0 : Int)) (cond (x4 == (0 : Int)) (cond (x5 == (0 : Int)) (cond (ok (v22 x12 x13 x14 x9 x10 x11)) (cond (val (v22 x12 x13 x14 x9 x10 x11)) (cond (ok (v22 x15 x16 x17 x9 x10 x11)) (cond (val (v22 x15 x16 x17 x9 x10 x11)) (cond (ok (v22 x18 x19 x20 x6 x7 [])) (cond (val (v22 x18 x19 x20 x6 x7 [])) (cond (ok (v22 x21 x22 x23 x6 x7 [])) (some (val (v22 x21 x22 x23 x6 x7 []))) none) (some (false))) none) (some (false))) none) (some (false))) none) (some (false))) (some (false))) (some (false))) (some (false))) (some (false))) (some (false)))
def xL6_132_0 (x0 : Bool) (x1 : Int) (x2 : Int) (x3 : Int) (x4 : Int) (x5 : Int) (x6 : Int) (x7 : (List Int)) (x8 : (List (Int × (List Int)))) (x9 : Int) (x10 : (List Int)) (x11 : (List (Int × (List Int)))) (x12 : Int) (x13 : (List Int)) (x14 : (List (Int × (List Int)))) (x15 : Int) (x16 : (List Int)) (x17 : (List (Int × (List Int)))) (x18 : Int) (x19 : (List Int)) (x20 : (List (Int × (List Int)))) (x21 : Int) (x22 : (List Int)) (x23 : (List (Int × (List Int)))) : Bool → Ex × CS := fun r => (.ret, { sl := [(4, .v (.sc (.bool (r))))], lo := [], h := [], n0 := 0 })
theorem bL6_132_0 (k : Nat) (cX : Ex → CS → Option (Ex × CS)) (x0 : Bool) (x1 : Int) (x2 : Int) (x3 : Int) (x4 : Int) (x5 : Int) (x6 : Int) (x7 : (List Int)) (x8 : (List (Int × (List Int)))) (x9 : Int) (x10 : (List Int)) (x11 : (List (Int × (List Int)))) (x12 : Int) (x13 : (List Int)) (x14 : (List (Int × (List Int)))) (x15 : Int) (x16 : (List Int)) (x17 : (List (Int × (List Int)))) (x18 : Int) (x19 : (List Int)) (x20 : (List (Int × (List Int)))) (x21 : Int) (x22 : (List Int)) (x23 : (List (Int × (List Int)))) : pieceBody Try.prog (mkTn base o20 t20 6) (TM.evF Try.prog (mkTn base o20 t20) dOk (k + 40)) dOk (k + 40) (codeAt Try.prog (tn0 6) 6 132) 0 132 { sl := [(2, .l 2 0), (5, .v (.sc (.bool (x0)))), (10, .l 10 0), (11, .v (.sc (.int .i64 (x1)))), (12, .l 12 0), (13, .v (.sc (.int .i64 (x2)))), (14, .l 14 0), (15, .v (.sc (.int .i64 (x3)))), (16, .l 16 0), (17, .v (.sc (.int .i64 (x4)))), (18, .l 18 0), (19, .v (.sc (.int .i64 (x5))))], lo := [(2, [.int .i64 (x6), .d 5 (.int .u8) (x7), .d 44 (.pair (.int .i64) (.list 5 (.int .u8))) (x8)]), (10, [.int .i64 (x9), .d 5 (.int .u8) (x10), .d 44 (.pair (.int .i64) (.list 5 (.int .u8))) (x11)]), (12, [.int .i64 (x12), .d 5 (.int .u8) (x13), .d 44 (.pair (.int .i64) (.list 5 (.int .u8))) (x14)]), (14, [.int .i64 (x15), .d 5 (.int .u8) (x16), .d 44 (.pair (.int .i64) (.list 5 (.int .u8))) (x17)]), (16, [.int .i64 (x18), .d 5 (.int .u8) (x19), .d 44 (.pair (.int .i64) (.list 5 (.int .u8))) (x20)]), (18, [.int .i64 (x21), .d 5 (.int .u8) (x22), .d 44 (.pair (.int .i64) (.list 5 (.int .u8))) (x23)])], h := [], n0 := 0 } cX = (cond (x0) (cond (x1 == (0 : Int)) (cond (x2 == (0 : Int)) (cond (x3 == (0 : Int)) (cond (x4 == (0 : Int)) (cond (x5 == (0 : Int)) (cond (ok (v22 x12 x13 x14 x9 x10 x11)) (cond (val (v22 x12 x13 x14 x9 x10 x11)) (cond (ok (v22 x15 x16 x17 x9 x10 x11)) (cond (val (v22 x15 x16 x17 x9 x10 x11)) (cond (ok (v22 x18 x19 x20 x6 x7 [])) (cond (val (v22 x18 x19 x20 x6 x7 [])) (cond (ok (v22 x21 x22 x23 x6 x7 [])) (cX .ret { sl := [(4, .v (.sc (.bool (val (v22 x21 x22 x23 x6 x7 [])))))], lo := [], h := [], n0 := 0 }) none) (cX .ret { sl := [(4, .v (.sc (.bool (false))))], lo := [], h := [], n0 := 0 })) none) (cX .ret { sl := [(4, .v (.sc (.bool (false))))], lo := [], h := [], n0 := 0 })) none) (cX .ret { sl := [(4, .v (.sc (.bool (false))))], lo := [], h := [], n0 := 0 })) none) (cX .ret { sl := [(4, .v (.sc (.bool (false))))], lo := [], h := [], n0 := 0 })) (cX .ret { sl := [(4, .v (.sc (.bool (false))))], lo := [], h := [], n0 := 0 })) (cX .ret { sl := [(4, .v (.sc (.bool (false))))], lo := [], h := [], n0 := 0 })) (cX .ret { sl := [(4, .v (.sc (.bool (false))))], lo := [], h := [], n0 := 0 })) (cX .ret { sl := [(4, .v (.sc (.bool (false))))], lo := [], h := [], n0 := 0 })) (cX .ret { sl := [(4, .v (.sc (.bool (false))))], lo := [], h := [], n0 := 0 })) := by kernel_rfl
theorem lL6_132_0 (k : Nat) (x0 : Bool) (x1 : Int) (x2 : Int) (x3 : Int) (x4 : Int) (x5 : Int) (x6 : Int) (x7 : (List Int)) (x8 : (List (Int × (List Int)))) (x9 : Int) (x10 : (List Int)) (x11 : (List (Int × (List Int)))) (x12 : Int) (x13 : (List Int)) (x14 : (List (Int × (List Int)))) (x15 : Int) (x16 : (List Int)) (x17 : (List (Int × (List Int)))) (x18 : Int) (x19 : (List Int)) (x20 : (List (Int × (List Int)))) (x21 : Int) (x22 : (List Int)) (x23 : (List (Int × (List Int)))) (r : Bool) : L6_132_0 x0 x1 x2 x3 x4 x5 x6 x7 x8 x9 x10 x11 x12 x13 x14 x15 x16 x17 x18 x19 x20 x21 x22 x23 = some r → pieceBody Try.prog (mkTn base o20 t20 6) (TM.evF Try.prog (mkTn base o20 t20) dOk (k + 40)) dOk (k + 40) (codeAt Try.prog (tn0 6) 6 132) 0 132 { sl := [(2, .l 2 0), (5, .v (.sc (.bool (x0)))), (10, .l 10 0), (11, .v (.sc (.int .i64 (x1)))), (12, .l 12 0), (13, .v (.sc (.int .i64 (x2)))), (14, .l 14 0), (15, .v (.sc (.int .i64 (x3)))), (16, .l 16 0), (17, .v (.sc (.int .i64 (x4)))), (18, .l 18 0), (19, .v (.sc (.int .i64 (x5))))], lo := [(2, [.int .i64 (x6), .d 5 (.int .u8) (x7), .d 44 (.pair (.int .i64) (.list 5 (.int .u8))) (x8)]), (10, [.int .i64 (x9), .d 5 (.int .u8) (x10), .d 44 (.pair (.int .i64) (.list 5 (.int .u8))) (x11)]), (12, [.int .i64 (x12), .d 5 (.int .u8) (x13), .d 44 (.pair (.int .i64) (.list 5 (.int .u8))) (x14)]), (14, [.int .i64 (x15), .d 5 (.int .u8) (x16), .d 44 (.pair (.int .i64) (.list 5 (.int .u8))) (x17)]), (16, [.int .i64 (x18), .d 5 (.int .u8) (x19), .d 44 (.pair (.int .i64) (.list 5 (.int .u8))) (x20)]), (18, [.int .i64 (x21), .d 5 (.int .u8) (x22), .d 44 (.pair (.int .i64) (.list 5 (.int .u8))) (x23)])], h := [], n0 := 0 } (fun e s => some (e, s)) = some (xL6_132_0 x0 x1 x2 x3 x4 x5 x6 x7 x8 x9 x10 x11 x12 x13 x14 x15 x16 x17 x18 x19 x20 x21 x22 x23 r) := by
  rw [bL6_132_0]
  unfold L6_132_0
  cases x0 with
  | true =>
    cases (x1 == (0 : Int)) with
    | true =>
      cases (x2 == (0 : Int)) with
      | true =>
        cases (x3 == (0 : Int)) with
        | true =>
          cases (x4 == (0 : Int)) with
          | true =>
            cases (x5 == (0 : Int)) with
            | true =>
              cases (ok (v22 x12 x13 x14 x9 x10 x11)) with
              | true =>
                cases (val (v22 x12 x13 x14 x9 x10 x11)) with
                | true =>
                  cases (ok (v22 x15 x16 x17 x9 x10 x11)) with
                  | true =>
                    cases (val (v22 x15 x16 x17 x9 x10 x11)) with
                    | true =>
                      cases (ok (v22 x18 x19 x20 x6 x7 [])) with
                      | true =>
                        cases (val (v22 x18 x19 x20 x6 x7 [])) with
                        | true =>
                          cases (ok (v22 x21 x22 x23 x6 x7 [])) with
                          | true =>
                            intro h; cases h; rfl
                          | false =>
                            intro h; cases h
                        | false =>
                          intro h; cases h; rfl
                      | false =>
                        intro h; cases h
                    | false =>
                      intro h; cases h; rfl
                  | false =>
                    intro h; cases h
                | false =>
                  intro h; cases h; rfl
              | false =>
                intro h; cases h
            | false =>
              intro h; cases h; rfl
          | false =>
            intro h; cases h; rfl
        | false =>
          intro h; cases h; rfl
      | false =>
        intro h; cases h; rfl
    | false =>
      intro h; cases h; rfl
  | false =>
    intro h; cases h; rfl
def sL6_132_0 : TellS := fun S => match S with
  | { sl := [(2, .l 2 0), (5, .v (.sc (.bool (x0)))), (10, .l 10 0), (11, .v (.sc (.int .i64 (x1)))), (12, .l 12 0), (13, .v (.sc (.int .i64 (x2)))), (14, .l 14 0), (15, .v (.sc (.int .i64 (x3)))), (16, .l 16 0), (17, .v (.sc (.int .i64 (x4)))), (18, .l 18 0), (19, .v (.sc (.int .i64 (x5))))], lo := [(2, [.int .i64 (x6), .d 5 (.int .u8) (x7), .d 44 (.pair (.int .i64) (.list 5 (.int .u8))) (x8)]), (10, [.int .i64 (x9), .d 5 (.int .u8) (x10), .d 44 (.pair (.int .i64) (.list 5 (.int .u8))) (x11)]), (12, [.int .i64 (x12), .d 5 (.int .u8) (x13), .d 44 (.pair (.int .i64) (.list 5 (.int .u8))) (x14)]), (14, [.int .i64 (x15), .d 5 (.int .u8) (x16), .d 44 (.pair (.int .i64) (.list 5 (.int .u8))) (x17)]), (16, [.int .i64 (x18), .d 5 (.int .u8) (x19), .d 44 (.pair (.int .i64) (.list 5 (.int .u8))) (x20)]), (18, [.int .i64 (x21), .d 5 (.int .u8) (x22), .d 44 (.pair (.int .i64) (.list 5 (.int .u8))) (x23)])], h := [], n0 := 0 } => some [(ok (L6_132_0 x0 x1 x2 x3 x4 x5 x6 x7 x8 x9 x10 x11 x12 x13 x14 x15 x16 x17 x18 x19 x20 x21 x22 x23), .ret, { sl := [(4, .v (.sc (.bool ((val (L6_132_0 x0 x1 x2 x3 x4 x5 x6 x7 x8 x9 x10 x11 x12 x13 x14 x15 x16 x17 x18 x19 x20 x21 x22 x23))))))], lo := [], h := [], n0 := 0 })]
  | _ => none
theorem wL6_132_0 : NewTell Try.prog dOk base o20 t20 ((6, 132), sL6_132_0) := by
  refine ⟨(codeAt Try.prog (tn0 6) 6 132), 0, by kernel_rfl, ?_⟩
  intro S alts e S' h1 h2
  have h1 : sL6_132_0 S = some alts := h1
  unfold sL6_132_0 at h1
  split at h1
  · cases h1
    obtain ⟨hc0, rfl, rfl⟩ := pick_one h2
    exact ⟨0 + 40, (evPiece_code rfl).trans (lL6_132_0 0 _ _ _ _ _ _ _ _ _ _ _ _ _ _ _ _ _ _ _ _ _ _ _ _ _ (ok_val hc0))⟩
  · cases h1
def o21 : OrcT := o20
def t21 : TellT := ((6, 132), sL6_132_0) :: t20
abbrev tn21 : FuncId → TAn := mkTn base o21 t21
theorem ok21 : TnOk Try.prog tn21 (mkA base) dOk := by
  have h0 : TnOk Try.prog (mkTn base o20 t20) (mkA base) dOk := ok20
  have h1 := tn_tell h0 h0 (p := ((6, 132), sL6_132_0)) wL6_132_0
  exact h1
end Go.Proofs.Ytchgjjgdgbecmaa
set_option maxRecDepth 1000000
set_option linter.unusedVariables false
set_option maxHeartbeats 4000000
namespace Go.Proofs.Ytchgjjgdgbecmaa
open Go Go.AM Go.TM Go.Proofs
/-- queuelablaw35.DiskAll: the piece 100 -/
def L6_100_0 (x0 : Int) (x1 : Bool) (x2 : Int) (x3 : (List Bool)) (x4 : (List Bool)) (x5 : Int) (x6 : Int) (x7 : (List Int)) (x8 : (List (Int × (List Int)))) (x9 : Int) (x10 : (List Int)) (x11 : (List (Int × (List Int)))) : Option Bool := (cond (ok (v16 x6 x7 x8 x4 (-1 : Int) (0 : Int))) (cond (ok (v16 x6 x7 x8 x4 (IntKind.wrap IntKind.i64 (x2 - (1 : Int))) x6)) (cond (ok (v16 x6 x7 x8 x3 (-1 : Int) (0 : Int))) (cond (decide (IntKind.wrap IntKind.i64 (x2 + (1 : Int)) ≠ (0 : Int))) (cond (ok (v16 x6 x7 x8 x3 (IntKind.wrap IntKind.i64 (Int.tmod (IntKind.wrap IntKind.i64 x0) (IntKind.wrap IntKind.i64 (x2 + (1 : Int))) - (1 : Int))) (0 : Int))) (cond (ok (L6_132_0 x1 x5 (Prod.snd (Prod.snd (Prod.snd (val (v16 x6 x7 x8 x4 (-1 : Int) (0 : Int)))))) (Prod.snd (Prod.snd (Prod.snd (val (v16 x6 x7 x8 x4 (IntKind.wrap IntKind.i64 (x2 - (1 : Int))) x6))))) (Prod.snd (Prod.snd (Prod.snd (val (v16 x6 x7 x8 x3 (-1 : Int) (0 : Int)))))) (Prod.snd (Prod.snd (Prod.snd (val (v16 x6 x7 x8 x3 (IntKind.wrap IntKind.i64 (Int.tmod (IntKind.wrap IntKind.i64 x0) (IntKind.wrap IntKind.i64 (x2 + (1 : Int))) - (1 : Int))) (0 : Int)))))) x6 x7 x8 x9 x10 x11 (Prod.fst (val (v16 x6 x7 x8 x4 (-1 : Int) (0 : Int)))) (Prod.fst (Prod.snd (val (v16 x6 x7 x8 x4 (-1 : Int) (0 : Int))))) (Prod.fst (Prod.snd (Prod.snd (val (v16 x6 x7 x8 x4 (-1 : Int) (0 : Int)))))) (Prod.fst (val (v16 x6 x7 x8 x4 (IntKind.wrap IntKind.i64 (x2 - (1 : Int))) x6))) (Prod.fst (Prod.snd (val (v16 x6 x7 x8 x4 (IntKind.wrap IntKind.i64 (x2 - (1 : Int))) x6)))) (Prod.fst (Prod.snd (Prod.snd (val (v16 x6 x7 x8 x4 (IntKind.wrap IntKind.i64 (x2 - (1 : Int))) x6))))) (Prod.fst (val (v16 x6 x7 x8 x3 (-1 : Int) (0 : Int)))) (Prod.fst (Prod.snd (val (v16 x6 x7 x8 x3 (-1 : Int) (0 : Int))))) (Prod.fst (Prod.snd (Prod.snd (val (v16 x6 x7 x8 x3 (-1 : Int) (0 : Int)))))) (Prod.fst (val (v16 x6 x7 x8 x3 (IntKind.wrap IntKind.i64 (Int.tmod (IntKind.wrap IntKind.i64 x0) (IntKind.wrap IntKind.i64 (x2 + (1 : Int))) - (1 : Int))) (0 : Int)))) (Prod.fst (Prod.snd (val (v16 x6 x7 x8 x3 (IntKind.wrap IntKind.i64 (Int.tmod (IntKind.wrap IntKind.i64 x0) (IntKind.wrap IntKind.i64 (x2 + (1 : Int))) - (1 : Int))) (0 : Int))))) (Prod.fst (Prod.snd (Prod.snd (val (v16 x6 x7 x8 x3 (IntKind.wrap IntKind.i64 (Int.tmod (IntKind.wrap IntKind.i64 x0) (IntKind.wrap IntKind.i64 (x2 + (1 : Int))) - (1 : Int))) (0 : Int)))))))) (some (val (L6_132_0 x1 x5 (Prod.snd (Prod.snd (Prod.snd (val (v16 x6 x7 x8 x4 (-1 : Int) (0 : Int)))))) (Prod.snd (Prod.snd (Prod.snd (val (v16 x6 x7 x8 x4 (IntKind.wrap IntKind.i64 (x2 - (1 : Int))) x6))))) (Prod.snd (Prod.snd (Prod.snd (val (v16 x6 x7 x8 x3 (-1 : Int) (0 : Int)))))) (Prod.snd (Prod.snd (Prod.snd (val (v16 x6 x7 x8 x3 (IntKind.wrap IntKind.i64 (Int.tmod (IntKind.wrap IntKind.i64 x0) (IntKind.wrap IntKind.i64 (x2 + (1 : Int))) - (1 : Int))) (0 : Int)))))) x6 x7 x8 x9 x10 x11 (Prod.fst (val (v16 x6 x7 x8 x4 (-1 : Int) (0 : Int)))) (Prod.fst (Prod.snd (val (v16 x6 x7 x8 x4 (-1 : Int) (0 : Int))))) (Prod.fst (Prod.snd (Prod.snd (val (v16 x6 x7 x8 x4 (-1 : Int) (0 : Int)))))) (Prod.fst (val (v16 x6 x7 x8 x4 (IntKind.wrap IntKind.i64 (x2 - (1 : Int))) x6))) (Prod.fst (Prod.snd (val (v16 x6 x7 x8 x4 (IntKind.wrap IntKind.i64 (x2 - (1 : Int))) x6)))) (Prod.fst (Prod.snd (Prod.snd (val (v16 x6 x7 x8 x4 (IntKind.wrap IntKind.i64 (x2 - (1 : Int))) x6))))) (Prod.fst (val (v16 x6 x7 x8 x3 (-1 : Int) (0 : Int)))) (Prod.fst (Prod.snd (val (v16 x6 x7 x8 x3 (-1 : Int) (0 : Int))))) (Prod.fst (Prod.snd (Prod.snd (val (v16 x6 x7 x8 x3 (-1 : Int) (0 : Int)))))) (Prod.fst (val (v16 x6 x7 x8 x3 (IntKind.wrap IntKind.i64 (Int.tmod (IntKind.wrap IntKind.i64 x0) (IntKind.wrap IntKind.i64 (x2 + (1 : Int))) - (1 : Int))) (0 : Int)))) (Prod.fst (Prod.snd (val (v16 x6 x7 x8 x3 (IntKind.wrap IntKind.i64 (Int.tmod (IntKind.wrap IntKind.i64 x0) (IntKind.wrap IntKind.i64 (x2 + (1 : Int))) - (1 : Int))) (0 : Int))))) (Prod.fst (Prod.snd (Prod.snd (val (v16 x6 x7 x8 x3 (IntKind.wrap IntKind.i64 (Int.tmod (IntKind.wrap IntKind.i64 x0) (IntKind.wrap IntKind.i64 (x2 + (1 : Int))) - (1 : Int))) (0 : Int))))))))) none) none) none) none) none) none)
def xL6_100_0 (x0 : Int) (x1 : Bool) (x2 : Int) (x3 : (List Bool)) (x4 : (List Bool)) (x5 : Int) (x6 : Int) (x7 : (List Int)) (x8 : (List (Int × (List Int)))) (x9 : Int) (x10 : (List Int)) (x11 : (List (Int × (List Int)))) : Bool → Ex × CS := fun r => (.ret, { sl := [(4, .v (.sc (.bool (r))))], lo := [], h := [], n0 := 0 })
theorem bL6_100_0 (k : Nat) (cX : Ex → CS → Option (Ex × CS)) (x0 : Int) (x1 : Bool) (x2 : Int) (x3 : (List Bool)) (x4 : (List Bool)) (x5 : Int) (x6 : Int) (x7 : (List Int)) (x8 : (List (Int × (List Int)))) (x9 : Int) (x10 : (List Int)) (x11 : (List (Int × (List Int)))) : pieceBody Try.prog (mkTn base o21 t21 6) (TM.evF Try.prog (mkTn base o21 t21) dOk (k + 40)) dOk (k + 40) (codeAt Try.prog (tn0 6) 6 100) 0 100 { sl := [(1, .v (.sc (.int .u8 (x0)))), (2, .l 2 0), (5, .v (.sc (.bool (x1)))), (6, .v (.sc (.int .i64 (x2)))), (7, .v (.sc (.d 4 .bool (x3)))), (8, .v (.sc (.d 4 .bool (x4)))), (10, .l 10 0), (11, .v (.sc (.int .i64 (x5))))], lo := [(2, [.int .i64 (x6), .d 5 (.int .u8) (x7), .d 44 (.pair (.int .i64) (.list 5 (.int .u8))) (x8)]), (10, [.int .i64 (x9), .d 5 (.int .u8) (x10), .d 44 (.pair (.int .i64) (.list 5 (.int .u8))) (x11)])], h := [], n0 := 0 } cX = (cond (ok (v16 x6 x7 x8 x4 (-1 : Int) (0 : Int))) (cond (ok (v16 x6 x7 x8 x4 (IntKind.wrap IntKind.i64 (x2 - (1 : Int))) x6)) (cond (ok (v16 x6 x7 x8 x3 (-1 : Int) (0 : Int))) (cond (decide (IntKind.wrap IntKind.i64 (x2 + (1 : Int)) ≠ (0 : Int))) (cond (ok (v16 x6 x7 x8 x3 (IntKind.wrap IntKind.i64 (Int.tmod (IntKind.wrap IntKind.i64 x0) (IntKind.wrap IntKind.i64 (x2 + (1 : Int))) - (1 : Int))) (0 : Int))) (cond (ok (L6_132_0 x1 x5 (Prod.snd (Prod.snd (Prod.snd (val (v16 x6 x7 x8 x4 (-1 : Int) (0 : Int)))))) (Prod.snd (Prod.snd (Prod.snd (val (v16 x6 x7 x8 x4 (IntKind.wrap IntKind.i64 (x2 - (1 : Int))) x6))))) (Prod.snd (Prod.snd (Prod.snd (val (v16 x6 x7 x8 x3 (-1 : Int) (0 : Int)))))) (Prod.snd (Prod.snd (Prod.snd (val (v16 x6 x7 x8 x3 (IntKind.wrap IntKind.i64 (Int.tmod (IntKind.wrap IntKind.i64 x0) (IntKind.wrap IntKind.i64 (x2 + (1 : Int))) - (1 : Int))) (0 : Int)))))) x6 x7 x8 x9 x10 x11 (Prod.fst (val (v16 x6 x7 x8 x4 (-1 : Int) (0 : Int)))) (Prod.fst (Prod.snd (val (v16 x6 x7 x8 x4 (-1 : Int) (0 : Int))))) (Prod.fst (Prod.snd (Prod.snd (val (v16 x6 x7 x8 x4 (-1 : Int) (0 : Int)))))) (Prod.fst (val (v16 x6 x7 x8 x4 (IntKind.wrap IntKind.i64 (x2 - (1 : Int))) x6))) (Prod.fst (Prod.snd (val (v16 x6 x7 x8 x4 (IntKind.wrap IntKind.i64 (x2 - (1 : Int))) x6)))) (Prod.fst (Prod.snd (Prod.snd (val (v16 x6 x7 x8 x4 (IntKind.wrap IntKind.i64 (x2 - (1 : Int))) x6))))) (Prod.fst (val (v16 x6 x7 x8 x3 (-1 : Int) (0 : Int)))) (Prod.fst (Prod.snd (val (v16 x6 x7 x8 x3 (-1 : Int) (0 : Int))))) (Prod.fst (Prod.snd (Prod.snd (val (v16 x6 x7 x8 x3 (-1 : Int) (0 : Int)))))) (Prod.fst (val (v16 x6 x7 x8 x3 (IntKind.wrap IntKind.i64 (Int.tmod (IntKind.wrap IntKind.i64 x0) (IntKind.wrap IntKind.i64 (x2 + (1 : Int))) - (1 : Int))) (0 : Int)))) (Prod.fst (Prod.snd (val (v16 x6 x7 x8 x3 (IntKind.wrap IntKind.i64 (Int.tmod (IntKind.wrap IntKind.i64 x0) (IntKind.wrap IntKind.i64 (x2 + (1 : Int))) - (1 : Int))) (0 : Int))))) (Prod.fst (Prod.snd (Prod.snd (val (v16 x6 x7 x8 x3 (IntKind.wrap IntKind.i64 (Int.tmod (IntKind.wrap IntKind.i64 x0) (IntKind.wrap IntKind.i64 (x2 + (1 : Int))) - (1 : Int))) (0 : Int)))))))) (cX .ret { sl := [(4, .v (.sc (.bool (val (L6_132_0 x1 x5 (Prod.snd (Prod.snd (Prod.snd (val (v16 x6 x7 x8 x4 (-1 : Int) (0 : Int)))))) (Prod.snd (Prod.snd (Prod.snd (val (v16 x6 x7 x8 x4 (IntKind.wrap IntKind.i64 (x2 - (1 : Int))) x6))))) (Prod.snd (Prod.snd (Prod.snd (val (v16 x6 x7 x8 x3 (-1 : Int) (0 : Int)))))) (Prod.snd (Prod.snd (Prod.snd (val (v16 x6 x7 x8 x3 (IntKind.wrap IntKind.i64 (Int.tmod (IntKind.wrap IntKind.i64 x0) (IntKind.wrap IntKind.i64 (x2 + (1 : Int))) - (1 : Int))) (0 : Int)))))) x6 x7 x8 x9 x10 x11 (Prod.fst (val (v16 x6 x7 x8 x4 (-1 : Int) (0 : Int)))) (Prod.fst (Prod.snd (val (v16 x6 x7 x8 x4 (-1 : Int) (0 : Int))))) (Prod.fst (Prod.snd (Prod.snd (val (v16 x6 x7 x8 x4 (-1 : Int) (0 : Int)))))) (Prod.fst (val (v16 x6 x7 x8 x4 (IntKind.wrap IntKind.i64 (x2 - (1 : Int))) x6))) (Prod.fst (Prod.snd (val (v16 x6 x7 x8 x4 (IntKind.wrap IntKind.i64 (x2 - (1 : Int))) x6)))) (Prod.fst (Prod.snd (Prod.snd (val (v16 x6 x7 x8 x4 (IntKind.wrap IntKind.i64 (x2 - (1 : Int))) x6))))) (Prod.fst (val (v16 x6 x7 x8 x3 (-1 : Int) (0 : Int)))) (Prod.fst (Prod.snd (val (v16 x6 x7 x8 x3 (-1 : Int) (0 : Int))))) (Prod.fst (Prod.snd (Prod.snd (val (v16 x6 x7 x8 x3 (-1 : Int) (0 : Int)))))) (Prod.fst (val (v16 x6 x7 x8 x3 (IntKind.wrap IntKind.i64 (Int.tmod (IntKind.wrap IntKind.i64 x0) (IntKind.wrap IntKind.i64 (x2 + (1 : Int))) - (1 : Int))) (0 : Int)))) (Prod.fst (Prod.snd (val (v16 x6 x7 x8 x3 (IntKind.wrap IntKind.i64 (Int.tmod (IntKind.wrap IntKind.i64 x0) (IntKind.wrap IntKind.i64 (x2 + (1 : Int))) - (1 : Int))) (0 : Int))))) (Prod.fst (Prod.snd (Prod.snd (val (v16 x6 x7 x8 x3 (IntKind.wrap IntKind.i64 (Int.tmod (IntKind.wrap IntKind.i64 x0) (IntKind.wrap IntKind.i64 (x2 + (1 : Int))) - (1 : Int))) (0 : Int)))))))))))], lo := [], h := [], n0 := 0 }) none) none) none) none) none) none) := by kernel_rfl
theorem lL6_100_0 (k : Nat) (x0 : Int) (x1 : Bool) (x2 : Int) (x3 : (List Bool)) (x4 : (List Bool)) (x5 : Int) (x6 : Int) (x7 : (List Int)) (x8 : (List (Int × (List Int)))) (x9 : Int) (x10 : (List Int)) (x11 : (List (Int × (List Int)))) (r : Bool) : L6_100_0 x0 x1 x2 x3 x4 x5 x6 x7 x8 x9 x10 x11 = some r → pieceBody Try.prog (mkTn base o21 t21 6) (TM.evF Try.prog (mkTn base o21 t21) dOk (k + 40)) dOk (k + 40) (codeAt Try.prog (tn0 6) 6 100) 0 100 { sl := [(1, .v (.sc (.int .u8 (x0)))), (2, .l 2 0), (5, .v (.sc (.bool (x1)))), (6, .v (.sc (.int .i64 (x2)))), (7, .v (.sc (.d 4 .bool (x3)))), (8, .v (.sc (.d 4 .bool (x4)))), (10, .l 10 0), (11, .v (.sc (.int .i64 (x5))))], lo := [(2, [.int .i64 (x6), .d 5 (.int .u8) (x7), .d 44 (.pair (.int .i64) (.list 5 (.int .u8))) (x8)]), (10, [.int .i64 (x9), .d 5 (.int .u8) (x10), .d 44 (.pair (.int .i64) (.list 5 (.int .u8))) (x11)])], h := [], n0 := 0 } (fun e s => some (e, s)) = some (xL6_100_0 x0 x1 x2 x3 x4 x5 x6 x7 x8 x9 x10 x11 r) := by
  rw [bL6_100_0]
  unfold L6_100_0
  cases (ok (v16 x6 x7 x8 x4 (-1 : Int) (0 : Int))) with
  | true =>
    cases (ok (v16 x6 x7 x8 x4 (IntKind.wrap IntKind.i64 (x2 - (1 : Int))) x6)) with
    | true =>
      cases (ok (v16 x6 x7 x8 x3 (-1 : Int) (0 : Int))) with
      | true =>
        cases (decide (IntKind.wrap IntKind.i64 (x2 + (1 : Int)) ≠ (0 : Int))) with
        | true =>
          cases (ok (v16 x6 x7 x8 x3 (IntKind.wrap IntKind.i64 (Int.tmod (IntKind.wrap IntKind.i64 x0) (IntKind.wrap IntKind.i64 (x2 + (1 : Int))) - (1 : Int))) (0 : Int))) with
          | true =>
            cases (ok (L6_132_0 x1 x5 (Prod.snd (Prod.snd (Prod.snd (val (v16 x6 x7 x8 x4 (-1 : Int) (0 : Int)))))) (Prod.snd (Prod.snd (Prod.snd (val (v16 x6 x7 x8 x4 (IntKind.wrap IntKind.i64 (x2 - (1 : Int))) x6))))) (Prod.snd (Prod.snd (Prod.snd (val (v16 x6 x7 x8 x3 (-1 : Int) (0 : Int)))))) (Prod.snd (Prod.snd (Prod.snd (val (v16 x6 x7 x8 x3 (IntKind.wrap IntKind.i64 (Int.tmod (IntKind.wrap IntKind.i64 x0) (IntKind.wrap IntKind.i64 (x2 + (1 : Int))) - (1 : Int))) (0 : Int)))))) x6 x7 x8 x9 x10 x11 (Prod.fst (val (v16 x6 x7 x8 x4 (-1 : Int) (0 : Int)))) (Prod.fst (Prod.snd (val (v16 x6 x7 x8 x4 (-1 : Int) (0 : Int))))) (Prod.fst (Prod.snd (Prod.snd (val (v16 x6 x7 x8 x4 (-1 : Int) (0 : Int)))))) (Prod.fst (val (v16 x6 x7 x8 x4 (IntKind.wrap IntKind.i64 (x2 - (1 : Int))) x6))) (Prod.fst (Prod.snd (val (v16 x6 x7 x8 x4 (IntKind.wrap IntKind.i64 (x2 - (1 : Int))) x6)))) (Prod.fst (Prod.snd (Prod.snd (val (v16 x6 x7 x8 x4 (IntKind.wrap IntKind.i64 (x2 - (1 : Int))) x6))))) (Prod.fst (val (v16 x6 x7 x8 x3 (-1 : Int) (0 : Int)))) (Prod.fst (Prod.snd (val (v16 x6 x7 x8 x3 (-1 : Int) (0 : Int))))) (Prod.fst (Prod.snd (Prod.snd (val (v16 x6 x7 x8 x3 (-1 : Int) (0 : Int)))))) (Prod.fst (val (v16 x6 x7 x8 x3 (IntKind.wrap IntKind.i64 (Int.tmod (IntKind.wrap IntKind.i64 x0) (IntKind.wrap IntKind.i64 (x2 + (1 : Int))) - (1 : Int))) (0 : Int)))) (Prod.fst (Prod.snd (val (v16 x6 x7 x8 x3 (IntKind.wrap IntKind.i64 (Int.tmod (IntKind.wrap IntKind.i64 x0) (IntKind.wrap IntKind.i64 (x2 + (1 : Int))) - (1 : Int))) (0 : Int))))) (Prod.fst (Prod.snd (Prod.snd (val (v16 x6 x7 x8 x3 (IntKind.wrap IntKind.i64 (Int.tmod (IntKind.wrap IntKind.i64 x0) (IntKind.wrap IntKind.i64 (x2 + (1 : Int))) - (1 : Int))) (0 : Int)))))))) with
            | true =>
              intro h; cases h; rfl
            | false =>
              intro h; cases h
          | false =>
            intro h; cases h
        | false =>
          intro h; cases h
      | false =>
        intro h; cases h
    | false =>
      intro h; cases h
  | false =>
    intro h; cases h
def sL6_100_0 : TellS := fun S => match S with
  | { sl := [(1, .v (.sc (.int .u8 (x0)))), (2, .l 2 0), (5, .v (.sc (.bool (x1)))), (6, .v (.sc (.int .i64 (x2)))), (7, .v (.sc (.d 4 .bool (x3)))), (8, .v (.sc (.d 4 .bool (x4)))), (10, .l 10 0), (11, .v (.sc (.int .i64 (x5))))], lo := [(2, [.int .i64 (x6), .d 5 (.int .u8) (x7), .d 44 (.pair (.int .i64) (.list 5 (.int .u8))) (x8)]), (10, [.int .i64 (x9), .d 5 (.int .u8) (x10), .d 44 (.pair (.int .i64) (.list 5 (.int .u8))) (x11)])], h := [], n0 := 0 } => some [(ok (L6_100_0 x0 x1 x2 x3 x4 x5 x6 x7 x8 x9 x10 x11), .ret, { sl := [(4, .v (.sc (.bool ((val (L6_100_0 x0 x1 x2 x3 x4 x5 x6 x7 x8 x9 x10 x11))))))], lo := [], h := [], n0 := 0 })]
  | _ => none
theorem wL6_100_0 : NewTell Try.prog dOk base o21 t21 ((6, 100), sL6_100_0) := by
  refine ⟨(codeAt Try.prog (tn0 6) 6 100), 0, by kernel_rfl, ?_⟩
  intro S alts e S' h1 h2
  have h1 : sL6_100_0 S = some alts := h1
  unfold sL6_100_0 at h1
  split at h1
  · cases h1
    obtain ⟨hc0, rfl, rfl⟩ := pick_one h2
    exact ⟨0 + 40, (evPiece_code rfl).trans (lL6_100_0 0 _ _ _ _ _ _ _ _ _ _ _ _ _ (ok_val hc0))⟩
  · cases h1
def o22 : OrcT := o21
def t22 : TellT := ((6, 100), sL6_100_0) :: t21
abbrev tn22 : FuncId → TAn := mkTn base o22 t22
theorem ok22 : TnOk Try.prog tn22 (mkA base) dOk := by
  have h0 : TnOk Try.prog (mkTn base o21 t21) (mkA base) dOk := ok21
  have h1 := tn_tell h0 h0 (p := ((6, 100), sL6_100_0)) wL6_100_0
  exact h1
end Go.Proofs.Ytchgjjgdgbecmaa
set_option maxRecDepth 1000000
set_option linter.unusedVariables false
set_option maxHeartbeats 4000000
namespace Go.Proofs.Ytchgjjgdgbecmaa
open Go Go.AM Go.TM Go.Proofs
/-- queuelablaw35.DiskAll: the piece 36 -/
def L6_36_0 (x0 : Int) (x1 : Bool) (x2 : Int) (x3 : (List Int)) (x4 : (List (Int × (List Int)))) : Option Bool := (cond (decide ((↑(List.length x4) : Int) ≤ (↑(List.length x4) : Int))) (cond (decide ((↑(List.length x4) : Int) ≤ (↑(nat_lit 2147483648) : Int))) (cond (ok (L6_0_0 FU x0 x1 (↑(List.length x4) : Int) (↑(List.length (List.replicate (Int.toNat (↑(List.length x4) : Int)) false)) : Int) (0 : Int) x2 x3 x4 (List.replicate (Int.toNat (↑(List.length x4) : Int)) false) (List.replicate (Int.toNat (↑(List.length x4) : Int)) false))) (cond (ok (v14 x2 x3 x4)) (cond (ok (L6_100_0 x0 x1 (↑(List.length x4) : Int) (List.replicate (Int.toNat (↑(List.length x4) : Int)) false) (val (L6_0_0 FU x0 x1 (↑(List.length x4) : Int) (↑(List.length (List.replicate (Int.toNat (↑(List.length x4) : Int)) false)) : Int) (0 : Int) x2 x3 x4 (List.replicate (Int.toNat (↑(List.length x4) : Int)) false) (List.replicate (Int.toNat (↑(List.length x4) : Int)) false))) (Prod.snd (Prod.snd (Prod.snd (val (v14 x2 x3 x4))))) x2 x3 x4 (Prod.fst (val (v14 x2 x3 x4))) (Prod.fst (Prod.snd (val (v14 x2 x3 x4)))) (Prod.fst (Prod.snd (Prod.snd (val (v14 x2 x3 x4))))))) (some (val (L6_100_0 x0 x1 (↑(List.length x4) : Int) (List.replicate (Int.toNat (↑(List.length x4) : Int)) false) (val (L6_0_0 FU x0 x1 (↑(List.length x4) : Int) (↑(List.length (List.replicate (Int.toNat (↑(List.length x4) : Int)) false)) : Int) (0 : Int) x2 x3 x4 (List.replicate (Int.toNat (↑(List.length x4) : Int)) false) (List.replicate (Int.toNat (↑(List.length x4) : Int)) false))) (Prod.snd (Prod.snd (Prod.snd (val (v14 x2 x3 x4))))) x2 x3 x4 (Prod.fst (val (v14 x2 x3 x4))) (Prod.fst (Prod.snd (val (v14 x2 x3 x4)))) (Prod.fst (Prod.snd (Prod.snd (val (v14 x2 x3 x4)))))))) none) none) none) none) none)
def xL6_36_0 (x0 : Int) (x1 : Bool) (x2 : Int) (x3 : (List Int)) (x4 : (List (Int × (List Int)))) : Bool → Ex × CS := fun r => (.ret, { sl := [(4, .v (.sc (.bool (r))))], lo := [], h := [], n0 := 0 })
theorem bL6_36_0 (k : Nat) (cX : Ex → CS → Option (Ex × CS)) (x0 : Int) (x1 : Bool) (x2 : Int) (x3 : (List Int)) (x4 : (List (Int × (List Int)))) : pieceBody Try.prog (mkTn base o22 t22 6) (TM.evF Try.prog (mkTn base o22 t22) dOk (k + 40)) dOk (k + 40) (codeAt Try.prog (tn0 6) 6 36) 0 36 { sl := [(1, .v (.sc (.int .u8 (x0)))), (2, .l 2 0), (5, .v (.sc (.bool (x1))))], lo := [(2, [.int .i64 (x2), .d 5 (.int .u8) (x3), .d 44 (.pair (.int .i64) (.list 5 (.int .u8))) (x4)])], h := [], n0 := 0 } cX = (cond (decide ((↑(List.length x4) : Int) ≤ (↑(List.length x4) : Int))) (cond (decide ((↑(List.length x4) : Int) ≤ (↑(nat_lit 2147483648) : Int))) (cond (decide ((↑(List.length x4) : Int) ≤ (↑(List.length x4) : Int))) (cond (decide ((↑(List.length x4) : Int) ≤ (↑(nat_lit 2147483648) : Int))) (cond (ok (L6_0_0 FU x0 x1 (↑(List.length x4) : Int) (↑(List.length (List.replicate (Int.toNat (↑(List.length x4) : Int)) false)) : Int) (0 : Int) x2 x3 x4 (List.replicate (Int.toNat (↑(List.length x4) : Int)) false) (List.replicate (Int.toNat (↑(List.length x4) : Int)) false))) (cond (ok (v14 x2 x3 x4)) (cond (ok (L6_100_0 x0 x1 (↑(List.length x4) : Int) (List.replicate (Int.toNat (↑(List.length x4) : Int)) false) (val (L6_0_0 FU x0 x1 (↑(List.length x4) : Int) (↑(List.length (List.replicate (Int.toNat (↑(List.length x4) : Int)) false)) : Int) (0 : Int) x2 x3 x4 (List.replicate (Int.toNat (↑(List.length x4) : Int)) false) (List.replicate (Int.toNat (↑(List.length x4) : Int)) false))) (Prod.snd (Prod.snd (Prod.snd (val (v14 x2 x3 x4))))) x2 x3 x4 (Prod.fst (val (v14 x2 x3 x4))) (Prod.fst (Prod.snd (val (v14 x2 x3 x4)))) (Prod.fst (Prod.snd (Prod.snd (val (v14 x2 x3 x4))))))) (cX .ret { sl := [(4, .v (.sc (.bool (val (L6_100_0 x0 x1 (↑(List.length x4) : Int) (List.replicate (Int.toNat (↑(List.length x4) : Int)) false) (val (L6_0_0 FU x0 x1 (↑(List.length x4) : Int) (↑(List.length (List.replicate (Int.toNat (↑(List.length x4) : Int)) false)) : Int) (0 : Int) x2 x3 x4 (List.replicate (Int.toNat (↑(List.length x4) : Int)) false) (List.replicate (Int.toNat (↑(List.length x4) : Int)) false))) (Prod.snd (Prod.snd (Prod.snd (val (v14 x2 x3 x4))))) x2 x3 x4 (Prod.fst (val (v14 x2 x3 x4))) (Prod.fst (Prod.snd (val (v14 x2 x3 x4)))) (Prod.fst (Prod.snd (Prod.snd (val (v14 x2 x3 x4))))))))))], lo := [], h := [], n0 := 0 }) none) none) none) none) none) none) none) := by kernel_rfl
theorem lL6_36_0 (k : Nat) (x0 : Int) (x1 : Bool) (x2 : Int) (x3 : (List Int)) (x4 : (List (Int × (List Int)))) (r : Bool) : L6_36_0 x0 x1 x2 x3 x4 = some r → pieceBody Try.prog (mkTn base o22 t22 6) (TM.evF Try.prog (mkTn base o22 t22) dOk (k + 40)) dOk (k + 40) (codeAt Try.prog (tn0 6) 6 36) 0 36 { sl := [(1, .v (.sc (.int .u8 (x0)))), (2, .l 2 0), (5, .v (.sc (.bool (x1))))], lo := [(2, [.int .i64 (x2), .d 5 (.int .u8) (x3), .d 44 (.pair (.int .i64) (.list 5 (.int .u8))) (x4)])], h := [], n0 := 0 } (fun e s => some (e, s)) = some (xL6_36_0 x0 x1 x2 x3 x4 r) := by
  rw [bL6_36_0]
  unfold L6_36_0
  cases (decide ((↑(List.length x4) : Int) ≤ (↑(List.length x4) : Int))) with
  | true =>
    cases (decide ((↑(List.length x4) : Int) ≤ (↑(nat_lit 2147483648) : Int))) with
    | true =>
      cases (ok (L6_0_0 FU x0 x1 (↑(List.length x4) : Int) (↑(List.length (List.replicate (Int.toNat (↑(List.length x4) : Int)) false)) : Int) (0 : Int) x2 x3 x4 (List.replicate (Int.toNat (↑(List.length x4) : Int)) false) (List.replicate (Int.toNat (↑(List.length x4) : Int)) false))) with
      | true =>
        cases (ok (v14 x2 x3 x4)) with
        | true =>
          cases (ok (L6_100_0 x0 x1 (↑(List.length x4) : Int) (List.replicate (Int.toNat (↑(List.length x4) : Int)) false) (val (L6_0_0 FU x0 x1 (↑(List.length x4) : Int) (↑(List.length (List.replicate (Int.toNat (↑(List.length x4) : Int)) false)) : Int) (0 : Int) x2 x3 x4 (List.replicate (Int.toNat (↑(List.length x4) : Int)) false) (List.replicate (Int.toNat (↑(List.length x4) : Int)) false))) (Prod.snd (Prod.snd (Prod.snd (val (v14 x2 x3 x4))))) x2 x3 x4 (Prod.fst (val (v14 x2 x3 x4))) (Prod.fst (Prod.snd (val (v14 x2 x3 x4)))) (Prod.fst (Prod.snd (Prod.snd (val (v14 x2 x3 x4))))))) with
          | true =>
            intro h; cases h; rfl
          | false =>
            intro h; cases h
        | false =>
          intro h; cases h
      | false =>
        intro h; cases h
    | false =>
      intro h; cases h
  | false =>
    intro h; cases h
def sL6_36_0 : TellS := fun S => match S with
  | { sl := [(1, .v (.sc (.int .u8 (x0)))), (2, .l 2 0), (5, .v (.sc (.bool (x1))))], lo := [(2, [.int .i64 (x2), .d 5 (.int .u8) (x3), .d 44 (.pair (.int .i64) (.list 5 (.int .u8))) (x4)])], h := [], n0 := 0 } => some [(ok (L6_36_0 x0 x1 x2 x3 x4), .ret, { sl := [(4, .v (.sc (.bool ((val (L6_36_0 x0 x1 x2 x3 x4))))))], lo := [], h := [], n0 := 0 })]
  | _ => none
theorem wL6_36_0 : NewTell Try.prog dOk base o22 t22 ((6, 36), sL6_36_0) := by
  refine ⟨(codeAt Try.prog (tn0 6) 6 36), 0, by kernel_rfl, ?_⟩
  intro S alts e S' h1 h2
  have h1 : sL6_36_0 S = some alts := h1
  unfold sL6_36_0 at h1
  split at h1
  · cases h1
    obtain ⟨hc0, rfl, rfl⟩ := pick_one h2
    exact ⟨0 + 40, (evPiece_code rfl).trans (lL6_36_0 0 _ _ _ _ _ _ (ok_val hc0))⟩
  · cases h1
def o23 : OrcT := o22
def t23 : TellT := ((6, 36), sL6_36_0) :: t22
abbrev tn23 : FuncId → TAn := mkTn base o23 t23
theorem ok23 : TnOk Try.prog tn23 (mkA base) dOk := by
  have h0 : TnOk Try.prog (mkTn base o22 t22) (mkA base) dOk := ok22
  have h1 := tn_tell h0 h0 (p := ((6, 36), sL6_36_0)) wL6_36_0
  exact h1
end Go.Proofs.Ytchgjjgdgbecmaa
set_option maxRecDepth 1000000
set_option linter.unusedVariables false
set_option maxHeartbeats 4000000
namespace Go.Proofs.Ytchgjjgdgbecmaa
open Go Go.AM Go.TM Go.Proofs
/-- queuelablaw35.DiskAll -/
def v6 (x0 : Int) (x1 : (List Int)) (x2 : (List (Int × (List Int)))) (x3 : Int) : Option Bool := (cond (ok (v26 x0 x1 x2)) (cond (!val (v26 x0 x1 x2)) (some (true)) (cond (ok (L6_36_0 x3 (val v10) x0 x1 x2)) (some (val (L6_36_0 x3 (val v10) x0 x1 x2))) none)) none)
theorem ev6 (x0 : Int) (x1 : (List Int)) (x2 : (List (Int × (List Int)))) (x3 : Int) : fnBody Try.prog (mkTn base o23 t23 6) (TM.evF Try.prog (mkTn base o23 t23) dOk 40) dOk 40 6 [.agg [.int .i64 (x0), .d 5 (.int .u8) (x1), .d 44 (.pair (.int .i64) (.list 5 (.int .u8))) (x2)], .sc (.int .u8 (x3))] [] = (v6 x0 x1 x2 x3).bind fun r => some ([.sc (.bool (r))], []) := by
  have h : fnBody Try.prog (mkTn base o23 t23 6) (TM.evF Try.prog (mkTn base o23 t23) dOk 40) dOk 40 6 [.agg [.int .i64 (x0), .d 5 (.int .u8) (x1), .d 44 (.pair (.int .i64) (.list 5 (.int .u8))) (x2)], .sc (.int .u8 (x3))] [] = (cond (ok (v26 x0 x1 x2)) (cond (!val (v26 x0 x1 x2)) (some ([.sc (.bool (true))], [])) (cond (ok (L6_36_0 x3 (val v10) x0 x1 x2)) (some ([.sc (.bool (val (L6_36_0 x3 (val v10) x0 x1 x2)))], [])) none)) none) := by kernel_rfl
  rw [h]
  unfold v6
  cases (ok (v26 x0 x1 x2)) with
  | true =>
    cases (!val (v26 x0 x1 x2)) with
    | true =>
      rfl
    | false =>
      cases (ok (L6_36_0 x3 (val v10) x0 x1 x2)) with
      | true =>
        rfl
      | false =>
        rfl
  | false =>
    rfl
def sv6 : OrcS := fun al H => match al, H with
  | [.agg [.int .i64 (x0), .d 5 (.int .u8) (x1), .d 44 (.pair (.int .i64) (.list 5 (.int .u8))) (x2)], .sc (.int .u8 (x3))], [] => some (ok (v6 x0 x1 x2 x3), [.sc (.bool ((val (v6 x0 x1 x2 x3))))], [])
  | _, _ => none
theorem wv6 : NewOrc Try.prog dOk base o23 t23 (6, sv6) := by
  intro al H q hq hq1
  have hq : sv6 al H = some q := hq
  unfold sv6 at hq
  split at hq
  · cases hq
    exact ⟨41, (ev6 _ _ _ _).trans (ok_bind hq1)⟩
  · cases hq
def o24 : OrcT := (6, sv6) :: o23
def t24 : TellT := t23
abbrev tn24 : FuncId → TAn := mkTn base o24 t24
theorem ok24 : TnOk Try.prog tn24 (mkA base) dOk := by
  have h0 : TnOk Try.prog (mkTn base o23 t23) (mkA base) dOk := ok23
  have h1 := tn_orc h0 h0 (p := (6, sv6)) wv6
  exact h1
end Go.Proofs.Ytchgjjgdgbecmaa
