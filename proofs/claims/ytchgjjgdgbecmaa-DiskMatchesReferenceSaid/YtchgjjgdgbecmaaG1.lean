/- What some functions and loops come to: printed and checked. Written by a program of ours. -/
import Derived.Test.YtchgjjgdgbecmaaG0
set_option linter.all false
set_option linter.constructorNameAsVariable false
set_option linter.unnecessarySimpa false
set_option linter.unusedSimpArgs false
set_option linter.unusedVariables false
set_option maxRecDepth 1000000
set_option linter.unusedVariables false
set_option maxHeartbeats 4000000
namespace Go.Proofs.Ytchgjjgdgbecmaa
open Go Go.AM Go.TM Go.Proofs
/-- disk.Write -/
def v12 (x0 : Int) (x1 : (List Int)) (x2 : (List (Int × (List Int)))) (x3 : Int) (x4 : (List Int)) : Option (Int × (List Int) × (List (Int × (List Int))) × Int) := (cond (ok (v24 x0 x1 x2)) (cond (!val (v24 x0 x1 x2)) (some ((0 : Int), [], [], (1 : Int))) (cond (ok (v30 x0 x1 x2 x3)) (cond (!val (v30 x0 x1 x2 x3)) (some ((0 : Int), [], [], (1 : Int))) (cond ((↑(List.length x4) : Int) != x0) (some ((0 : Int), [], [], (1 : Int))) (cond (decide ((↑(List.length x2) : Int) ≥ (64 : Int))) (some ((0 : Int), [], [], (10 : Int))) (cond (decide (List.length x1 ≤ nat_lit 2147483648)) (cond (decide (List.length x2 ≤ nat_lit 2147483648)) (cond (decide (List.length x2 + List.length [(x3, x4)] ≤ nat_lit 2147483648)) (cond (ok (L12_8_0 FU (↑(List.length (x2 ++ [(x3, x4)])) : Int) (0 : Int) (0 : Int) x0 (x2 ++ [(x3, x4)]) x1 [] [] [])) (some (x0, x1, val (L12_8_0 FU (↑(List.length (x2 ++ [(x3, x4)])) : Int) (0 : Int) (0 : Int) x0 (x2 ++ [(x3, x4)]) x1 [] [] []), (0 : Int))) none) none) none) none)))) none)) none)
theorem ev12 (x0 : Int) (x1 : (List Int)) (x2 : (List (Int × (List Int)))) (x3 : Int) (x4 : (List Int)) : fnBody Try.prog (mkTn base o12 t12 12) (TM.evF Try.prog (mkTn base o12 t12) dOk 40) dOk 40 12 [.agg [.int .i64 (x0), .d 5 (.int .u8) (x1), .d 44 (.pair (.int .i64) (.list 5 (.int .u8))) (x2)], .sc (.int .i64 (x3)), .sc (.d 5 (.int .u8) (x4))] [] = (v12 x0 x1 x2 x3 x4).bind fun r => some ([.agg [.int .i64 (r.1), .d 5 (.int .u8) (r.2.1), .d 44 (.pair (.int .i64) (.list 5 (.int .u8))) (r.2.2.1)], .sc (.int .i64 (r.2.2.2))], []) := by
  have h : fnBody Try.prog (mkTn base o12 t12 12) (TM.evF Try.prog (mkTn base o12 t12) dOk 40) dOk 40 12 [.agg [.int .i64 (x0), .d 5 (.int .u8) (x1), .d 44 (.pair (.int .i64) (.list 5 (.int .u8))) (x2)], .sc (.int .i64 (x3)), .sc (.d 5 (.int .u8) (x4))] [] = (cond (ok (v24 x0 x1 x2)) (cond (!val (v24 x0 x1 x2)) (some ([.agg [.int .i64 ((0 : Int)), .d 5 (.int .u8) ([]), .d 44 (.pair (.int .i64) (.list 5 (.int .u8))) ([])], .sc (.int .i64 ((1 : Int)))], [])) (cond (ok (v30 x0 x1 x2 x3)) (cond (!val (v30 x0 x1 x2 x3)) (some ([.agg [.int .i64 ((0 : Int)), .d 5 (.int .u8) ([]), .d 44 (.pair (.int .i64) (.list 5 (.int .u8))) ([])], .sc (.int .i64 ((1 : Int)))], [])) (cond ((↑(List.length x4) : Int) != x0) (some ([.agg [.int .i64 ((0 : Int)), .d 5 (.int .u8) ([]), .d 44 (.pair (.int .i64) (.list 5 (.int .u8))) ([])], .sc (.int .i64 ((1 : Int)))], [])) (cond (decide ((↑(List.length x2) : Int) ≥ (64 : Int))) (some ([.agg [.int .i64 ((0 : Int)), .d 5 (.int .u8) ([]), .d 44 (.pair (.int .i64) (.list 5 (.int .u8))) ([])], .sc (.int .i64 ((10 : Int)))], [])) (cond (decide (List.length x1 ≤ nat_lit 2147483648)) (cond (decide (List.length x2 ≤ nat_lit 2147483648)) (cond (decide (List.length x2 + List.length [(x3, x4)] ≤ nat_lit 2147483648)) (cond (ok (L12_8_0 FU (↑(List.length (x2 ++ [(x3, x4)])) : Int) (0 : Int) (0 : Int) x0 (x2 ++ [(x3, x4)]) x1 [] [] [])) (some ([.agg [.int .i64 (x0), .d 5 (.int .u8) (x1), .d 44 (.pair (.int .i64) (.list 5 (.int .u8))) (val (L12_8_0 FU (↑(List.length (x2 ++ [(x3, x4)])) : Int) (0 : Int) (0 : Int) x0 (x2 ++ [(x3, x4)]) x1 [] [] []))], .sc (.int .i64 ((0 : Int)))], [])) none) none) none) none)))) none)) none) := by kernel_rfl
  rw [h]
  unfold v12
  cases (ok (v24 x0 x1 x2)) with
  | true =>
    cases (!val (v24 x0 x1 x2)) with
    | true =>
      rfl
    | false =>
      cases (ok (v30 x0 x1 x2 x3)) with
      | true =>
        cases (!val (v30 x0 x1 x2 x3)) with
        | true =>
          rfl
        | false =>
          cases ((↑(List.length x4) : Int) != x0) with
          | true =>
            rfl
          | false =>
            cases (decide ((↑(List.length x2) : Int) ≥ (64 : Int))) with
            | true =>
              rfl
            | false =>
              cases (decide (List.length x1 ≤ nat_lit 2147483648)) with
              | true =>
                cases (decide (List.length x2 ≤ nat_lit 2147483648)) with
                | true =>
                  cases (decide (List.length x2 + List.length [(x3, x4)] ≤ nat_lit 2147483648)) with
                  | true =>
                    cases (ok (L12_8_0 FU (↑(List.length (x2 ++ [(x3, x4)])) : Int) (0 : Int) (0 : Int) x0 (x2 ++ [(x3, x4)]) x1 [] [] [])) with
                    | true =>
                      rfl
                    | false =>
                      rfl
                  | false =>
                    rfl
                | false =>
                  rfl
              | false =>
                rfl
      | false =>
        rfl
  | false =>
    rfl
def sv12 : OrcS := fun al H => match al, H with
  | [.agg [.int .i64 (x0), .d 5 (.int .u8) (x1), .d 44 (.pair (.int .i64) (.list 5 (.int .u8))) (x2)], .sc (.int .i64 (x3)), .sc (.d 5 (.int .u8) (x4))], [] => some (ok (v12 x0 x1 x2 x3 x4), [.agg [.int .i64 ((val (v12 x0 x1 x2 x3 x4)).1), .d 5 (.int .u8) ((val (v12 x0 x1 x2 x3 x4)).2.1), .d 44 (.pair (.int .i64) (.list 5 (.int .u8))) ((val (v12 x0 x1 x2 x3 x4)).2.2.1)], .sc (.int .i64 ((val (v12 x0 x1 x2 x3 x4)).2.2.2))], [])
  | _, _ => none
theorem wv12 : NewOrc Try.prog dOk base o12 t12 (12, sv12) := by
  intro al H q hq hq1
  have hq : sv12 al H = some q := hq
  unfold sv12 at hq
  split at hq
  · cases hq
    exact ⟨41, (ev12 _ _ _ _ _).trans (ok_bind hq1)⟩
  · cases hq
/-- disk.done: the loop 0 -/
def L33_0_0 : Nat → (List (Int × (List Int))) → Int → Int → Int → (List Int) → (List (Int × (List Int))) → (List Int) → Option (List Int)
  | 0, _, _, _, _, _, _, _ => none
  | n + 1, x0, x1, x2, x3, x4, x5, x6 => (cond (decide (x2 < x1)) (cond (decide ((0 : Int) ≤ x2)) (cond (decide (x2 < (↑(List.length x0) : Int))) (cond (decide ((0 : Int) ≤ IntKind.wrap IntKind.i64 (Prod.fst (List.getD x0 (Int.toNat x2) ((0 : Int), [])) * x3))) (cond (decide ((0 : Int) ≤ IntKind.wrap IntKind.i64 (IntKind.wrap IntKind.i64 (Prod.fst (List.getD x0 (Int.toNat x2) ((0 : Int), [])) + (1 : Int)) * x3))) (cond (decide (Int.toNat (IntKind.wrap IntKind.i64 (Prod.fst (List.getD x0 (Int.toNat x2) ((0 : Int), [])) * x3)) ≤ Int.toNat (IntKind.wrap IntKind.i64 (IntKind.wrap IntKind.i64 (Prod.fst (List.getD x0 (Int.toNat x2) ((0 : Int), [])) + (1 : Int)) * x3)))) (cond (decide (Int.toNat (IntKind.wrap IntKind.i64 (IntKind.wrap IntKind.i64 (Prod.fst (List.getD x0 (Int.toNat x2) ((0 : Int), [])) + (1 : Int)) * x3)) ≤ Int.toNat (IntKind.wrap IntKind.i64 (IntKind.wrap IntKind.i64 (Prod.fst (List.getD x0 (Int.toNat x2) ((0 : Int), [])) + (1 : Int)) * x3)))) (cond (decide (Int.toNat (IntKind.wrap IntKind.i64 (IntKind.wrap IntKind.i64 (Prod.fst (List.getD x0 (Int.toNat x2) ((0 : Int), [])) + (1 : Int)) * x3)) ≤ List.length x6)) (cond (decide (Int.toNat (IntKind.wrap IntKind.i64 (Prod.fst (List.getD x0 (Int.toNat x2) ((0 : Int), [])) * x3)) + (Int.toNat (IntKind.wrap IntKind.i64 (IntKind.wrap IntKind.i64 (Prod.fst (List.getD x0 (Int.toNat x2) ((0 : Int), [])) + (1 : Int)) * x3)) - Int.toNat (IntKind.wrap IntKind.i64 (Prod.fst (List.getD x0 (Int.toNat x2) ((0 : Int), [])) * x3))) ≤ List.length x6)) (L33_0_0 n (x0) (x1) (IntKind.wrap IntKind.i64 (x2 + (1 : Int))) (x3) (x4) (x5) (List.take (Int.toNat (IntKind.wrap IntKind.i64 (Prod.fst (List.getD x0 (Int.toNat x2) ((0 : Int), [])) * x3))) x6 ++ List.take (Int.toNat (IntKind.wrap IntKind.i64 (IntKind.wrap IntKind.i64 (Prod.fst (List.getD x0 (Int.toNat x2) ((0 : Int), [])) + (1 : Int)) * x3)) - Int.toNat (IntKind.wrap IntKind.i64 (Prod.fst (List.getD x0 (Int.toNat x2) ((0 : Int), [])) * x3))) (Prod.snd (List.getD x0 (Int.toNat x2) ((0 : Int), []))) ++ List.drop (Int.toNat (IntKind.wrap IntKind.i64 (Prod.fst (List.getD x0 (Int.toNat x2) ((0 : Int), [])) * x3)) + min (Int.toNat (IntKind.wrap IntKind.i64 (IntKind.wrap IntKind.i64 (Prod.fst (List.getD x0 (Int.toNat x2) ((0 : Int), [])) + (1 : Int)) * x3)) - Int.toNat (IntKind.wrap IntKind.i64 (Prod.fst (List.getD x0 (Int.toNat x2) ((0 : Int), [])) * x3))) (List.length (Prod.snd (List.getD x0 (Int.toNat x2) ((0 : Int), []))))) x6)) none) none) none) none) none) none) none) none) (some (x6)))
theorem qL33_0_0 (n : Nat) (x0 : (List (Int × (List Int)))) (x1 : Int) (x2 : Int) (x3 : Int) (x4 : (List Int)) (x5 : (List (Int × (List Int)))) (x6 : (List Int)) : L33_0_0 (n + 1) x0 x1 x2 x3 x4 x5 x6 = (cond (decide (x2 < x1)) (cond (decide ((0 : Int) ≤ x2)) (cond (decide (x2 < (↑(List.length x0) : Int))) (cond (decide ((0 : Int) ≤ IntKind.wrap IntKind.i64 (Prod.fst (List.getD x0 (Int.toNat x2) ((0 : Int), [])) * x3))) (cond (decide ((0 : Int) ≤ IntKind.wrap IntKind.i64 (IntKind.wrap IntKind.i64 (Prod.fst (List.getD x0 (Int.toNat x2) ((0 : Int), [])) + (1 : Int)) * x3))) (cond (decide (Int.toNat (IntKind.wrap IntKind.i64 (Prod.fst (List.getD x0 (Int.toNat x2) ((0 : Int), [])) * x3)) ≤ Int.toNat (IntKind.wrap IntKind.i64 (IntKind.wrap IntKind.i64 (Prod.fst (List.getD x0 (Int.toNat x2) ((0 : Int), [])) + (1 : Int)) * x3)))) (cond (decide (Int.toNat (IntKind.wrap IntKind.i64 (IntKind.wrap IntKind.i64 (Prod.fst (List.getD x0 (Int.toNat x2) ((0 : Int), [])) + (1 : Int)) * x3)) ≤ Int.toNat (IntKind.wrap IntKind.i64 (IntKind.wrap IntKind.i64 (Prod.fst (List.getD x0 (Int.toNat x2) ((0 : Int), [])) + (1 : Int)) * x3)))) (cond (decide (Int.toNat (IntKind.wrap IntKind.i64 (IntKind.wrap IntKind.i64 (Prod.fst (List.getD x0 (Int.toNat x2) ((0 : Int), [])) + (1 : Int)) * x3)) ≤ List.length x6)) (cond (decide (Int.toNat (IntKind.wrap IntKind.i64 (Prod.fst (List.getD x0 (Int.toNat x2) ((0 : Int), [])) * x3)) + (Int.toNat (IntKind.wrap IntKind.i64 (IntKind.wrap IntKind.i64 (Prod.fst (List.getD x0 (Int.toNat x2) ((0 : Int), [])) + (1 : Int)) * x3)) - Int.toNat (IntKind.wrap IntKind.i64 (Prod.fst (List.getD x0 (Int.toNat x2) ((0 : Int), [])) * x3))) ≤ List.length x6)) (L33_0_0 n (x0) (x1) (IntKind.wrap IntKind.i64 (x2 + (1 : Int))) (x3) (x4) (x5) (List.take (Int.toNat (IntKind.wrap IntKind.i64 (Prod.fst (List.getD x0 (Int.toNat x2) ((0 : Int), [])) * x3))) x6 ++ List.take (Int.toNat (IntKind.wrap IntKind.i64 (IntKind.wrap IntKind.i64 (Prod.fst (List.getD x0 (Int.toNat x2) ((0 : Int), [])) + (1 : Int)) * x3)) - Int.toNat (IntKind.wrap IntKind.i64 (Prod.fst (List.getD x0 (Int.toNat x2) ((0 : Int), [])) * x3))) (Prod.snd (List.getD x0 (Int.toNat x2) ((0 : Int), []))) ++ List.drop (Int.toNat (IntKind.wrap IntKind.i64 (Prod.fst (List.getD x0 (Int.toNat x2) ((0 : Int), [])) * x3)) + min (Int.toNat (IntKind.wrap IntKind.i64 (IntKind.wrap IntKind.i64 (Prod.fst (List.getD x0 (Int.toNat x2) ((0 : Int), [])) + (1 : Int)) * x3)) - Int.toNat (IntKind.wrap IntKind.i64 (Prod.fst (List.getD x0 (Int.toNat x2) ((0 : Int), [])) * x3))) (List.length (Prod.snd (List.getD x0 (Int.toNat x2) ((0 : Int), []))))) x6)) none) none) none) none) none) none) none) none) (some (x6))) := by rfl
def xL33_0_0 (x0 : (List (Int × (List Int)))) (x1 : Int) (x2 : Int) (x3 : Int) (x4 : (List Int)) (x5 : (List (Int × (List Int)))) (x6 : (List Int)) : (List Int) → Ex × CS := fun r => ((.exit 0), { sl := [(2, .l 2 0), (5, .v (.sc (.g 0)))], lo := [], h := [.row 5 (.int .u8) (r)], n0 := 0 })
theorem bL33_0_0 (k : Nat) (cN : CS → Option (Ex × CS)) (cX : Ex → CS → Option (Ex × CS)) (x0 : (List (Int × (List Int)))) (x1 : Int) (x2 : Int) (x3 : Int) (x4 : (List Int)) (x5 : (List (Int × (List Int)))) (x6 : (List Int)) : loopBody Try.prog (mkTn base o12 t12 33) (TM.evF Try.prog (mkTn base o12 t12) dOk (k + 40)) dOk (k + 40) (codeAt Try.prog (tn0 33) 33 0) 0 0 { sl := [(2, .l 2 0), (5, .v (.sc (.g 0))), (18, .v (.sc (.d 44 (.pair (.int .i64) (.list 5 (.int .u8))) (x0)))), (19, .v (.sc (.int .i64 (x1)))), (20, .v (.sc (.int .i64 (x2))))], lo := [(2, [.int .i64 (x3), .d 5 (.int .u8) (x4), .d 44 (.pair (.int .i64) (.list 5 (.int .u8))) (x5)])], h := [.row 5 (.int .u8) (x6)], n0 := 0 } cN cX = (cond (decide (x2 < x1)) (cond (decide ((0 : Int) ≤ x2)) (cond (decide (x2 < (↑(List.length x0) : Int))) (cond (decide ((0 : Int) ≤ IntKind.wrap IntKind.i64 (Prod.fst (List.getD x0 (Int.toNat x2) ((0 : Int), [])) * x3))) (cond (decide ((0 : Int) ≤ IntKind.wrap IntKind.i64 (IntKind.wrap IntKind.i64 (Prod.fst (List.getD x0 (Int.toNat x2) ((0 : Int), [])) + (1 : Int)) * x3))) (cond (decide ((0 : Int) ≤ IntKind.wrap IntKind.i64 (IntKind.wrap IntKind.i64 (Prod.fst (List.getD x0 (Int.toNat x2) ((0 : Int), [])) + (1 : Int)) * x3))) (cond (decide (Int.toNat (IntKind.wrap IntKind.i64 (Prod.fst (List.getD x0 (Int.toNat x2) ((0 : Int), [])) * x3)) ≤ Int.toNat (IntKind.wrap IntKind.i64 (IntKind.wrap IntKind.i64 (Prod.fst (List.getD x0 (Int.toNat x2) ((0 : Int), [])) + (1 : Int)) * x3)))) (cond (decide (Int.toNat (IntKind.wrap IntKind.i64 (IntKind.wrap IntKind.i64 (Prod.fst (List.getD x0 (Int.toNat x2) ((0 : Int), [])) + (1 : Int)) * x3)) ≤ Int.toNat (IntKind.wrap IntKind.i64 (IntKind.wrap IntKind.i64 (Prod.fst (List.getD x0 (Int.toNat x2) ((0 : Int), [])) + (1 : Int)) * x3)))) (cond (decide (Int.toNat (IntKind.wrap IntKind.i64 (IntKind.wrap IntKind.i64 (Prod.fst (List.getD x0 (Int.toNat x2) ((0 : Int), [])) + (1 : Int)) * x3)) ≤ List.length x6)) (cond (decide (Int.toNat (IntKind.wrap IntKind.i64 (Prod.fst (List.getD x0 (Int.toNat x2) ((0 : Int), [])) * x3)) + (Int.toNat (IntKind.wrap IntKind.i64 (IntKind.wrap IntKind.i64 (Prod.fst (List.getD x0 (Int.toNat x2) ((0 : Int), [])) + (1 : Int)) * x3)) - Int.toNat (IntKind.wrap IntKind.i64 (Prod.fst (List.getD x0 (Int.toNat x2) ((0 : Int), [])) * x3))) ≤ List.length x6)) (cN { sl := [(2, .l 2 0), (5, .v (.sc (.g 0))), (18, .v (.sc (.d 44 (.pair (.int .i64) (.list 5 (.int .u8))) (x0)))), (19, .v (.sc (.int .i64 (x1)))), (20, .v (.sc (.int .i64 (IntKind.wrap IntKind.i64 (x2 + (1 : Int))))))], lo := [(2, [.int .i64 (x3), .d 5 (.int .u8) (x4), .d 44 (.pair (.int .i64) (.list 5 (.int .u8))) (x5)])], h := [.row 5 (.int .u8) (List.take (Int.toNat (IntKind.wrap IntKind.i64 (Prod.fst (List.getD x0 (Int.toNat x2) ((0 : Int), [])) * x3))) x6 ++ List.take (Int.toNat (IntKind.wrap IntKind.i64 (IntKind.wrap IntKind.i64 (Prod.fst (List.getD x0 (Int.toNat x2) ((0 : Int), [])) + (1 : Int)) * x3)) - Int.toNat (IntKind.wrap IntKind.i64 (Prod.fst (List.getD x0 (Int.toNat x2) ((0 : Int), [])) * x3))) (Prod.snd (List.getD x0 (Int.toNat x2) ((0 : Int), []))) ++ List.drop (Int.toNat (IntKind.wrap IntKind.i64 (Prod.fst (List.getD x0 (Int.toNat x2) ((0 : Int), [])) * x3)) + min (Int.toNat (IntKind.wrap IntKind.i64 (IntKind.wrap IntKind.i64 (Prod.fst (List.getD x0 (Int.toNat x2) ((0 : Int), [])) + (1 : Int)) * x3)) - Int.toNat (IntKind.wrap IntKind.i64 (Prod.fst (List.getD x0 (Int.toNat x2) ((0 : Int), [])) * x3))) (List.length (Prod.snd (List.getD x0 (Int.toNat x2) ((0 : Int), []))))) x6)], n0 := 0 }) none) none) none) none) none) none) none) none) none) (cX (.exit 0) { sl := [(2, .l 2 0), (5, .v (.sc (.g 0)))], lo := [], h := [.row 5 (.int .u8) (x6)], n0 := 0 })) := by kernel_rfl
theorem lL33_0_0 (k m : Nat) : ∀ (n : Nat) (x0 : (List (Int × (List Int)))) (x1 : Int) (x2 : Int) (x3 : Int) (x4 : (List Int)) (x5 : (List (Int × (List Int)))) (x6 : (List Int)) (r : (List Int)), L33_0_0 n x0 x1 x2 x3 x4 x5 x6 = some r → loopE Try.prog (mkTn base o12 t12 33) (TM.evF Try.prog (mkTn base o12 t12) dOk (k + 40)) dOk (k + 40) (codeAt Try.prog (tn0 33) 33 0) 0 0 (n + m) { sl := [(2, .l 2 0), (5, .v (.sc (.g 0))), (18, .v (.sc (.d 44 (.pair (.int .i64) (.list 5 (.int .u8))) (x0)))), (19, .v (.sc (.int .i64 (x1)))), (20, .v (.sc (.int .i64 (x2))))], lo := [(2, [.int .i64 (x3), .d 5 (.int .u8) (x4), .d 44 (.pair (.int .i64) (.list 5 (.int .u8))) (x5)])], h := [.row 5 (.int .u8) (x6)], n0 := 0 } = some (xL33_0_0 x0 x1 x2 x3 x4 x5 x6 r) := by
  intro n
  induction n with
  | zero => intro _ _ _ _ _ _ _ r h; cases h
  | succ n ih =>
    intro x0 x1 x2 x3 x4 x5 x6 r
    rw [show n + 1 + m = n + m + 1 by omega, loop_step, bL33_0_0, qL33_0_0]
    cases (decide (x2 < x1)) with
    | true =>
      cases (decide ((0 : Int) ≤ x2)) with
      | true =>
        cases (decide (x2 < (↑(List.length x0) : Int))) with
        | true =>
          cases (decide ((0 : Int) ≤ IntKind.wrap IntKind.i64 (Prod.fst (List.getD x0 (Int.toNat x2) ((0 : Int), [])) * x3))) with
          | true =>
            cases (decide ((0 : Int) ≤ IntKind.wrap IntKind.i64 (IntKind.wrap IntKind.i64 (Prod.fst (List.getD x0 (Int.toNat x2) ((0 : Int), [])) + (1 : Int)) * x3))) with
            | true =>
              cases (decide (Int.toNat (IntKind.wrap IntKind.i64 (Prod.fst (List.getD x0 (Int.toNat x2) ((0 : Int), [])) * x3)) ≤ Int.toNat (IntKind.wrap IntKind.i64 (IntKind.wrap IntKind.i64 (Prod.fst (List.getD x0 (Int.toNat x2) ((0 : Int), [])) + (1 : Int)) * x3)))) with
              | true =>
                cases (decide (Int.toNat (IntKind.wrap IntKind.i64 (IntKind.wrap IntKind.i64 (Prod.fst (List.getD x0 (Int.toNat x2) ((0 : Int), [])) + (1 : Int)) * x3)) ≤ Int.toNat (IntKind.wrap IntKind.i64 (IntKind.wrap IntKind.i64 (Prod.fst (List.getD x0 (Int.toNat x2) ((0 : Int), [])) + (1 : Int)) * x3)))) with
                | true =>
                  cases (decide (Int.toNat (IntKind.wrap IntKind.i64 (IntKind.wrap IntKind.i64 (Prod.fst (List.getD x0 (Int.toNat x2) ((0 : Int), [])) + (1 : Int)) * x3)) ≤ List.length x6)) with
                  | true =>
                    cases (decide (Int.toNat (IntKind.wrap IntKind.i64 (Prod.fst (List.getD x0 (Int.toNat x2) ((0 : Int), [])) * x3)) + (Int.toNat (IntKind.wrap IntKind.i64 (IntKind.wrap IntKind.i64 (Prod.fst (List.getD x0 (Int.toNat x2) ((0 : Int), [])) + (1 : Int)) * x3)) - Int.toNat (IntKind.wrap IntKind.i64 (Prod.fst (List.getD x0 (Int.toNat x2) ((0 : Int), [])) * x3))) ≤ List.length x6)) with
                    | true =>
                      exact ih _ _ _ _ _ _ _ r
                    | false =>
                      intro h; cases h
                  | false =>
                    intro h; cases h
                | false =>
                  intro h; cases h
              | false =>
                intro h; cases h
            | false =>
              intro h; cases h
          | false =>
            intro h; cases h
        | false =>
          intro h; cases h
      | false =>
        intro h; cases h
    | false =>
      intro h; cases h; rfl
def sL33_0_0 : TellS := fun S => match S with
  | { sl := [(2, .l 2 0), (5, .v (.sc (.g 0))), (18, .v (.sc (.d 44 (.pair (.int .i64) (.list 5 (.int .u8))) (x0)))), (19, .v (.sc (.int .i64 (x1)))), (20, .v (.sc (.int .i64 (x2))))], lo := [(2, [.int .i64 (x3), .d 5 (.int .u8) (x4), .d 44 (.pair (.int .i64) (.list 5 (.int .u8))) (x5)])], h := [.row 5 (.int .u8) (x6)], n0 := 0 } => some [(ok (L33_0_0 FU x0 x1 x2 x3 x4 x5 x6), (.exit 0), { sl := [(2, .l 2 0), (5, .v (.sc (.g 0)))], lo := [], h := [.row 5 (.int .u8) ((val (L33_0_0 FU x0 x1 x2 x3 x4 x5 x6)))], n0 := 0 })]
  | _ => none
theorem wL33_0_0 : NewTell Try.prog dOk base o12 t12 ((33, 0), sL33_0_0) := by
  refine ⟨.loop (codeAt Try.prog (tn0 33) 33 0), 0, by kernel_rfl, ?_⟩
  intro S alts e S' h1 h2
  have h1 : sL33_0_0 S = some alts := h1
  unfold sL33_0_0 at h1
  split at h1
  · cases h1
    obtain ⟨hc0, rfl, rfl⟩ := pick_one h2
    exact ⟨FU + 40, (evPiece_loop rfl).trans (lL33_0_0 FU 40 FU _ _ _ _ _ _ _ _ (ok_val hc0))⟩
  · cases h1
def o13 : OrcT := (12, sv12) :: o12
def t13 : TellT := ((33, 0), sL33_0_0) :: t12
abbrev tn13 : FuncId → TAn := mkTn base o13 t13
theorem ok13 : TnOk Try.prog tn13 (mkA base) dOk := by
  have h0 : TnOk Try.prog (mkTn base o12 t12) (mkA base) dOk := ok12
  have h1 := tn_orc h0 h0 (p := (12, sv12)) wv12
  have h2 := tn_tell h0 h1 (p := ((33, 0), sL33_0_0)) wL33_0_0
  exact h2
end Go.Proofs.Ytchgjjgdgbecmaa
set_option maxRecDepth 1000000
set_option linter.unusedVariables false
set_option maxHeartbeats 4000000
namespace Go.Proofs.Ytchgjjgdgbecmaa
open Go Go.AM Go.TM Go.Proofs
/-- disk.done -/
def v33 (x0 : Int) (x1 : (List Int)) (x2 : (List (Int × (List Int)))) (x3 : (List (Int × (List Int)))) : Option (List Int) := (cond (decide ((↑(List.length x1) : Int) ≤ (↑(List.length x1) : Int))) (cond (decide ((↑(List.length x1) : Int) ≤ (↑(nat_lit 2147483648) : Int))) (cond (ok (L33_0_0 FU x3 (↑(List.length x3) : Int) (0 : Int) x0 x1 x2 (List.take (List.length (List.replicate (Int.toNat (↑(List.length x1) : Int)) (0 : Int))) x1 ++ List.drop (List.length x1) (List.replicate (Int.toNat (↑(List.length x1) : Int)) (0 : Int))))) (some (val (L33_0_0 FU x3 (↑(List.length x3) : Int) (0 : Int) x0 x1 x2 (List.take (List.length (List.replicate (Int.toNat (↑(List.length x1) : Int)) (0 : Int))) x1 ++ List.drop (List.length x1) (List.replicate (Int.toNat (↑(List.length x1) : Int)) (0 : Int)))))) none) none) none)
theorem ev33 (x0 : Int) (x1 : (List Int)) (x2 : (List (Int × (List Int)))) (x3 : (List (Int × (List Int)))) : fnBody Try.prog (mkTn base o13 t13 33) (TM.evF Try.prog (mkTn base o13 t13) dOk 40) dOk 40 33 [.agg [.int .i64 (x0), .d 5 (.int .u8) (x1), .d 44 (.pair (.int .i64) (.list 5 (.int .u8))) (x2)], .sc (.d 44 (.pair (.int .i64) (.list 5 (.int .u8))) (x3))] [] = (v33 x0 x1 x2 x3).bind fun r => some ([.sc (.d 5 (.int .u8) (r))], []) := by
  have h : fnBody Try.prog (mkTn base o13 t13 33) (TM.evF Try.prog (mkTn base o13 t13) dOk 40) dOk 40 33 [.agg [.int .i64 (x0), .d 5 (.int .u8) (x1), .d 44 (.pair (.int .i64) (.list 5 (.int .u8))) (x2)], .sc (.d 44 (.pair (.int .i64) (.list 5 (.int .u8))) (x3))] [] = (cond (decide ((↑(List.length x1) : Int) ≤ (↑(List.length x1) : Int))) (cond (decide ((↑(List.length x1) : Int) ≤ (↑(nat_lit 2147483648) : Int))) (cond (ok (L33_0_0 FU x3 (↑(List.length x3) : Int) (0 : Int) x0 x1 x2 (List.take (List.length (List.replicate (Int.toNat (↑(List.length x1) : Int)) (0 : Int))) x1 ++ List.drop (List.length x1) (List.replicate (Int.toNat (↑(List.length x1) : Int)) (0 : Int))))) (some ([.sc (.d 5 (.int .u8) (val (L33_0_0 FU x3 (↑(List.length x3) : Int) (0 : Int) x0 x1 x2 (List.take (List.length (List.replicate (Int.toNat (↑(List.length x1) : Int)) (0 : Int))) x1 ++ List.drop (List.length x1) (List.replicate (Int.toNat (↑(List.length x1) : Int)) (0 : Int))))))], [])) none) none) none) := by kernel_rfl
  rw [h]
  unfold v33
  cases (decide ((↑(List.length x1) : Int) ≤ (↑(List.length x1) : Int))) with
  | true =>
    cases (decide ((↑(List.length x1) : Int) ≤ (↑(nat_lit 2147483648) : Int))) with
    | true =>
      cases (ok (L33_0_0 FU x3 (↑(List.length x3) : Int) (0 : Int) x0 x1 x2 (List.take (List.length (List.replicate (Int.toNat (↑(List.length x1) : Int)) (0 : Int))) x1 ++ List.drop (List.length x1) (List.replicate (Int.toNat (↑(List.length x1) : Int)) (0 : Int))))) with
      | true =>
        rfl
      | false =>
        rfl
    | false =>
      rfl
  | false =>
    rfl
def sv33 : OrcS := fun al H => match al, H with
  | [.agg [.int .i64 (x0), .d 5 (.int .u8) (x1), .d 44 (.pair (.int .i64) (.list 5 (.int .u8))) (x2)], .sc (.d 44 (.pair (.int .i64) (.list 5 (.int .u8))) (x3))], [] => some (ok (v33 x0 x1 x2 x3), [.sc (.d 5 (.int .u8) ((val (v33 x0 x1 x2 x3))))], [])
  | _, _ => none
theorem wv33 : NewOrc Try.prog dOk base o13 t13 (33, sv33) := by
  intro al H q hq hq1
  have hq : sv33 al H = some q := hq
  unfold sv33 at hq
  split at hq
  · cases hq
    exact ⟨41, (ev33 _ _ _ _).trans (ok_bind hq1)⟩
  · cases hq
def o14 : OrcT := (33, sv33) :: o13
def t14 : TellT := t13
abbrev tn14 : FuncId → TAn := mkTn base o14 t14
theorem ok14 : TnOk Try.prog tn14 (mkA base) dOk := by
  have h0 : TnOk Try.prog (mkTn base o13 t13) (mkA base) dOk := ok13
  have h1 := tn_orc h0 h0 (p := (33, sv33)) wv33
  exact h1
end Go.Proofs.Ytchgjjgdgbecmaa
set_option maxRecDepth 1000000
set_option linter.unusedVariables false
set_option maxHeartbeats 4000000
namespace Go.Proofs.Ytchgjjgdgbecmaa
open Go Go.AM Go.TM Go.Proofs
/-- disk.Sync -/
def v14 (x0 : Int) (x1 : (List Int)) (x2 : (List (Int × (List Int)))) : Option (Int × (List Int) × (List (Int × (List Int))) × Int) := (cond (ok (v24 x0 x1 x2)) (cond (!val (v24 x0 x1 x2)) (some ((0 : Int), [], [], (1 : Int))) (cond (ok (v33 x0 x1 x2 x2)) (some (x0, val (v33 x0 x1 x2 x2), [], (0 : Int))) none)) none)
theorem ev14 (x0 : Int) (x1 : (List Int)) (x2 : (List (Int × (List Int)))) : fnBody Try.prog (mkTn base o14 t14 14) (TM.evF Try.prog (mkTn base o14 t14) dOk 40) dOk 40 14 [.agg [.int .i64 (x0), .d 5 (.int .u8) (x1), .d 44 (.pair (.int .i64) (.list 5 (.int .u8))) (x2)]] [] = (v14 x0 x1 x2).bind fun r => some ([.agg [.int .i64 (r.1), .d 5 (.int .u8) (r.2.1), .d 44 (.pair (.int .i64) (.list 5 (.int .u8))) (r.2.2.1)], .sc (.int .i64 (r.2.2.2))], []) := by
  have h : fnBody Try.prog (mkTn base o14 t14 14) (TM.evF Try.prog (mkTn base o14 t14) dOk 40) dOk 40 14 [.agg [.int .i64 (x0), .d 5 (.int .u8) (x1), .d 44 (.pair (.int .i64) (.list 5 (.int .u8))) (x2)]] [] = (cond (ok (v24 x0 x1 x2)) (cond (!val (v24 x0 x1 x2)) (some ([.agg [.int .i64 ((0 : Int)), .d 5 (.int .u8) ([]), .d 44 (.pair (.int .i64) (.list 5 (.int .u8))) ([])], .sc (.int .i64 ((1 : Int)))], [])) (cond (ok (v33 x0 x1 x2 x2)) (some ([.agg [.int .i64 (x0), .d 5 (.int .u8) (val (v33 x0 x1 x2 x2)), .d 44 (.pair (.int .i64) (.list 5 (.int .u8))) ([])], .sc (.int .i64 ((0 : Int)))], [])) none)) none) := by kernel_rfl
  rw [h]
  unfold v14
  cases (ok (v24 x0 x1 x2)) with
  | true =>
    cases (!val (v24 x0 x1 x2)) with
    | true =>
      rfl
    | false =>
      cases (ok (v33 x0 x1 x2 x2)) with
      | true =>
        rfl
      | false =>
        rfl
  | false =>
    rfl
def sv14 : OrcS := fun al H => match al, H with
  | [.agg [.int .i64 (x0), .d 5 (.int .u8) (x1), .d 44 (.pair (.int .i64) (.list 5 (.int .u8))) (x2)]], [] => some (ok (v14 x0 x1 x2), [.agg [.int .i64 ((val (v14 x0 x1 x2)).1), .d 5 (.int .u8) ((val (v14 x0 x1 x2)).2.1), .d 44 (.pair (.int .i64) (.list 5 (.int .u8))) ((val (v14 x0 x1 x2)).2.2.1)], .sc (.int .i64 ((val (v14 x0 x1 x2)).2.2.2))], [])
  | _, _ => none
theorem wv14 : NewOrc Try.prog dOk base o14 t14 (14, sv14) := by
  intro al H q hq hq1
  have hq : sv14 al H = some q := hq
  unfold sv14 at hq
  split at hq
  · cases hq
    exact ⟨41, (ev14 _ _ _).trans (ok_bind hq1)⟩
  · cases hq
/-- disk.Crash -/
def v16 (x0 : Int) (x1 : (List Int)) (x2 : (List (Int × (List Int)))) (x3 : (List Bool)) (x4 : Int) (x5 : Int) : Option (Int × (List Int) × (List (Int × (List Int))) × Int) := (cond (ok (v24 x0 x1 x2)) (cond (!val (v24 x0 x1 x2)) (some ((0 : Int), [], [], (1 : Int))) (cond ((↑(List.length x3) : Int) != (↑(List.length x2) : Int)) (some ((0 : Int), [], [], (1 : Int))) (cond (decide (x4 < (-1 : Int))) (some ((0 : Int), [], [], (1 : Int))) (cond (decide (x4 ≥ (↑(List.length x3) : Int))) (some ((0 : Int), [], [], (1 : Int))) (cond (decide (x5 < (0 : Int))) (some ((0 : Int), [], [], (1 : Int))) (cond (decide (x5 > x0)) (some ((0 : Int), [], [], (1 : Int))) (cond (ok (L16_0_0 FU x3 x4 x5 x2 (↑(List.length x2) : Int) (0 : Int) x0 x1 x2 (0 : Int) [] [] [])) (cond (ok (v33 x0 x1 x2 (val (L16_0_0 FU x3 x4 x5 x2 (↑(List.length x2) : Int) (0 : Int) x0 x1 x2 (0 : Int) [] [] [])))) (some (x0, val (v33 x0 x1 x2 (val (L16_0_0 FU x3 x4 x5 x2 (↑(List.length x2) : Int) (0 : Int) x0 x1 x2 (0 : Int) [] [] []))), [], (0 : Int))) none) none))))))) none)
theorem ev16 (x0 : Int) (x1 : (List Int)) (x2 : (List (Int × (List Int)))) (x3 : (List Bool)) (x4 : Int) (x5 : Int) : fnBody Try.prog (mkTn base o14 t14 16) (TM.evF Try.prog (mkTn base o14 t14) dOk 40) dOk 40 16 [.agg [.int .i64 (x0), .d 5 (.int .u8) (x1), .d 44 (.pair (.int .i64) (.list 5 (.int .u8))) (x2)], .sc (.d 4 .bool (x3)), .sc (.int .i64 (x4)), .sc (.int .i64 (x5))] [] = (v16 x0 x1 x2 x3 x4 x5).bind fun r => some ([.agg [.int .i64 (r.1), .d 5 (.int .u8) (r.2.1), .d 44 (.pair (.int .i64) (.list 5 (.int .u8))) (r.2.2.1)], .sc (.int .i64 (r.2.2.2))], []) := by
  have h : fnBody Try.prog (mkTn base o14 t14 16) (TM.evF Try.prog (mkTn base o14 t14) dOk 40) dOk 40 16 [.agg [.int .i64 (x0), .d 5 (.int .u8) (x1), .d 44 (.pair (.int .i64) (.list 5 (.int .u8))) (x2)], .sc (.d 4 .bool (x3)), .sc (.int .i64 (x4)), .sc (.int .i64 (x5))] [] = (cond (ok (v24 x0 x1 x2)) (cond (!val (v24 x0 x1 x2)) (some ([.agg [.int .i64 ((0 : Int)), .d 5 (.int .u8) ([]), .d 44 (.pair (.int .i64) (.list 5 (.int .u8))) ([])], .sc (.int .i64 ((1 : Int)))], [])) (cond ((↑(List.length x3) : Int) != (↑(List.length x2) : Int)) (some ([.agg [.int .i64 ((0 : Int)), .d 5 (.int .u8) ([]), .d 44 (.pair (.int .i64) (.list 5 (.int .u8))) ([])], .sc (.int .i64 ((1 : Int)))], [])) (cond (decide (x4 < (-1 : Int))) (some ([.agg [.int .i64 ((0 : Int)), .d 5 (.int .u8) ([]), .d 44 (.pair (.int .i64) (.list 5 (.int .u8))) ([])], .sc (.int .i64 ((1 : Int)))], [])) (cond (decide (x4 ≥ (↑(List.length x3) : Int))) (some ([.agg [.int .i64 ((0 : Int)), .d 5 (.int .u8) ([]), .d 44 (.pair (.int .i64) (.list 5 (.int .u8))) ([])], .sc (.int .i64 ((1 : Int)))], [])) (cond (decide (x5 < (0 : Int))) (some ([.agg [.int .i64 ((0 : Int)), .d 5 (.int .u8) ([]), .d 44 (.pair (.int .i64) (.list 5 (.int .u8))) ([])], .sc (.int .i64 ((1 : Int)))], [])) (cond (decide (x5 > x0)) (some ([.agg [.int .i64 ((0 : Int)), .d 5 (.int .u8) ([]), .d 44 (.pair (.int .i64) (.list 5 (.int .u8))) ([])], .sc (.int .i64 ((1 : Int)))], [])) (cond (ok (L16_0_0 FU x3 x4 x5 x2 (↑(List.length x2) : Int) (0 : Int) x0 x1 x2 (0 : Int) [] [] [])) (cond (ok (v33 x0 x1 x2 (val (L16_0_0 FU x3 x4 x5 x2 (↑(List.length x2) : Int) (0 : Int) x0 x1 x2 (0 : Int) [] [] [])))) (some ([.agg [.int .i64 (x0), .d 5 (.int .u8) (val (v33 x0 x1 x2 (val (L16_0_0 FU x3 x4 x5 x2 (↑(List.length x2) : Int) (0 : Int) x0 x1 x2 (0 : Int) [] [] [])))), .d 44 (.pair (.int .i64) (.list 5 (.int .u8))) ([])], .sc (.int .i64 ((0 : Int)))], [])) none) none))))))) none) := by kernel_rfl
  rw [h]
  unfold v16
  cases (ok (v24 x0 x1 x2)) with
  | true =>
    cases (!val (v24 x0 x1 x2)) with
    | true =>
      rfl
    | false =>
      cases ((↑(List.length x3) : Int) != (↑(List.length x2) : Int)) with
      | true =>
        rfl
      | false =>
        cases (decide (x4 < (-1 : Int))) with
        | true =>
          rfl
        | false =>
          cases (decide (x4 ≥ (↑(List.length x3) : Int))) with
          | true =>
            rfl
          | false =>
            cases (decide (x5 < (0 : Int))) with
            | true =>
              rfl
            | false =>
              cases (decide (x5 > x0)) with
              | true =>
                rfl
              | false =>
                cases (ok (L16_0_0 FU x3 x4 x5 x2 (↑(List.length x2) : Int) (0 : Int) x0 x1 x2 (0 : Int) [] [] [])) with
                | true =>
                  cases (ok (v33 x0 x1 x2 (val (L16_0_0 FU x3 x4 x5 x2 (↑(List.length x2) : Int) (0 : Int) x0 x1 x2 (0 : Int) [] [] [])))) with
                  | true =>
                    rfl
                  | false =>
                    rfl
                | false =>
                  rfl
  | false =>
    rfl
def sv16 : OrcS := fun al H => match al, H with
  | [.agg [.int .i64 (x0), .d 5 (.int .u8) (x1), .d 44 (.pair (.int .i64) (.list 5 (.int .u8))) (x2)], .sc (.d 4 .bool (x3)), .sc (.int .i64 (x4)), .sc (.int .i64 (x5))], [] => some (ok (v16 x0 x1 x2 x3 x4 x5), [.agg [.int .i64 ((val (v16 x0 x1 x2 x3 x4 x5)).1), .d 5 (.int .u8) ((val (v16 x0 x1 x2 x3 x4 x5)).2.1), .d 44 (.pair (.int .i64) (.list 5 (.int .u8))) ((val (v16 x0 x1 x2 x3 x4 x5)).2.2.1)], .sc (.int .i64 ((val (v16 x0 x1 x2 x3 x4 x5)).2.2.2))], [])
  | _, _ => none
theorem wv16 : NewOrc Try.prog dOk base o14 t14 (16, sv16) := by
  intro al H q hq hq1
  have hq : sv16 al H = some q := hq
  unfold sv16 at hq
  split at hq
  · cases hq
    exact ⟨41, (ev16 _ _ _ _ _ _).trans (ok_bind hq1)⟩
  · cases hq
/-- disk.Read -/
def v18 (x0 : Int) (x1 : (List Int)) (x2 : (List (Int × (List Int)))) (x3 : Int) : Option ((List Int) × Int) := (cond (ok (v24 x0 x1 x2)) (cond (!val (v24 x0 x1 x2)) (some ([], (1 : Int))) (cond (ok (v30 x0 x1 x2 x3)) (cond (!val (v30 x0 x1 x2 x3)) (some ([], (1 : Int))) (cond (ok (v33 x0 x1 x2 x2)) (cond (decide ((0 : Int) ≤ IntKind.wrap IntKind.i64 (x3 * x0))) (cond (decide ((0 : Int) ≤ IntKind.wrap IntKind.i64 (IntKind.wrap IntKind.i64 (x3 + (1 : Int)) * x0))) (cond (decide (Int.toNat (IntKind.wrap IntKind.i64 (x3 * x0)) ≤ Int.toNat (IntKind.wrap IntKind.i64 (IntKind.wrap IntKind.i64 (x3 + (1 : Int)) * x0)))) (cond (decide (Int.toNat (IntKind.wrap IntKind.i64 (IntKind.wrap IntKind.i64 (x3 + (1 : Int)) * x0)) ≤ Int.toNat (IntKind.wrap IntKind.i64 (IntKind.wrap IntKind.i64 (x3 + (1 : Int)) * x0)))) (cond (decide (Int.toNat (IntKind.wrap IntKind.i64 (IntKind.wrap IntKind.i64 (x3 + (1 : Int)) * x0)) ≤ List.length (val (v33 x0 x1 x2 x2)))) (cond (decide (List.length (List.drop (Int.toNat (IntKind.wrap IntKind.i64 (x3 * x0))) (List.take (Int.toNat (IntKind.wrap IntKind.i64 (IntKind.wrap IntKind.i64 (x3 + (1 : Int)) * x0))) (val (v33 x0 x1 x2 x2)))) ≤ nat_lit 2147483648)) (some (List.drop (Int.toNat (IntKind.wrap IntKind.i64 (x3 * x0))) (List.take (Int.toNat (IntKind.wrap IntKind.i64 (IntKind.wrap IntKind.i64 (x3 + (1 : Int)) * x0))) (val (v33 x0 x1 x2 x2))), (0 : Int))) none) none) none) none) none) none) none)) none)) none)
theorem ev18 (x0 : Int) (x1 : (List Int)) (x2 : (List (Int × (List Int)))) (x3 : Int) : fnBody Try.prog (mkTn base o14 t14 18) (TM.evF Try.prog (mkTn base o14 t14) dOk 40) dOk 40 18 [.agg [.int .i64 (x0), .d 5 (.int .u8) (x1), .d 44 (.pair (.int .i64) (.list 5 (.int .u8))) (x2)], .sc (.int .i64 (x3))] [] = (v18 x0 x1 x2 x3).bind fun r => some ([.sc (.d 5 (.int .u8) (r.1)), .sc (.int .i64 (r.2))], []) := by
  have h : fnBody Try.prog (mkTn base o14 t14 18) (TM.evF Try.prog (mkTn base o14 t14) dOk 40) dOk 40 18 [.agg [.int .i64 (x0), .d 5 (.int .u8) (x1), .d 44 (.pair (.int .i64) (.list 5 (.int .u8))) (x2)], .sc (.int .i64 (x3))] [] = (cond (ok (v24 x0 x1 x2)) (cond (!val (v24 x0 x1 x2)) (some ([.sc (.d 5 (.int .u8) ([])), .sc (.int .i64 ((1 : Int)))], [])) (cond (ok (v30 x0 x1 x2 x3)) (cond (!val (v30 x0 x1 x2 x3)) (some ([.sc (.d 5 (.int .u8) ([])), .sc (.int .i64 ((1 : Int)))], [])) (cond (ok (v33 x0 x1 x2 x2)) (cond (decide ((0 : Int) ≤ IntKind.wrap IntKind.i64 (x3 * x0))) (cond (decide ((0 : Int) ≤ IntKind.wrap IntKind.i64 (IntKind.wrap IntKind.i64 (x3 + (1 : Int)) * x0))) (cond (decide (Int.toNat (IntKind.wrap IntKind.i64 (x3 * x0)) ≤ Int.toNat (IntKind.wrap IntKind.i64 (IntKind.wrap IntKind.i64 (x3 + (1 : Int)) * x0)))) (cond (decide (Int.toNat (IntKind.wrap IntKind.i64 (IntKind.wrap IntKind.i64 (x3 + (1 : Int)) * x0)) ≤ Int.toNat (IntKind.wrap IntKind.i64 (IntKind.wrap IntKind.i64 (x3 + (1 : Int)) * x0)))) (cond (decide (Int.toNat (IntKind.wrap IntKind.i64 (IntKind.wrap IntKind.i64 (x3 + (1 : Int)) * x0)) ≤ List.length (val (v33 x0 x1 x2 x2)))) (cond (decide (List.length (List.drop (Int.toNat (IntKind.wrap IntKind.i64 (x3 * x0))) (List.take (Int.toNat (IntKind.wrap IntKind.i64 (IntKind.wrap IntKind.i64 (x3 + (1 : Int)) * x0))) (val (v33 x0 x1 x2 x2)))) ≤ nat_lit 2147483648)) (some ([.sc (.d 5 (.int .u8) (List.drop (Int.toNat (IntKind.wrap IntKind.i64 (x3 * x0))) (List.take (Int.toNat (IntKind.wrap IntKind.i64 (IntKind.wrap IntKind.i64 (x3 + (1 : Int)) * x0))) (val (v33 x0 x1 x2 x2))))), .sc (.int .i64 ((0 : Int)))], [])) none) none) none) none) none) none) none)) none)) none) := by kernel_rfl
  rw [h]
  unfold v18
  cases (ok (v24 x0 x1 x2)) with
  | true =>
    cases (!val (v24 x0 x1 x2)) with
    | true =>
      rfl
    | false =>
      cases (ok (v30 x0 x1 x2 x3)) with
      | true =>
        cases (!val (v30 x0 x1 x2 x3)) with
        | true =>
          rfl
        | false =>
          cases (ok (v33 x0 x1 x2 x2)) with
          | true =>
            cases (decide ((0 : Int) ≤ IntKind.wrap IntKind.i64 (x3 * x0))) with
            | true =>
              cases (decide ((0 : Int) ≤ IntKind.wrap IntKind.i64 (IntKind.wrap IntKind.i64 (x3 + (1 : Int)) * x0))) with
              | true =>
                cases (decide (Int.toNat (IntKind.wrap IntKind.i64 (x3 * x0)) ≤ Int.toNat (IntKind.wrap IntKind.i64 (IntKind.wrap IntKind.i64 (x3 + (1 : Int)) * x0)))) with
                | true =>
                  cases (decide (Int.toNat (IntKind.wrap IntKind.i64 (IntKind.wrap IntKind.i64 (x3 + (1 : Int)) * x0)) ≤ Int.toNat (IntKind.wrap IntKind.i64 (IntKind.wrap IntKind.i64 (x3 + (1 : Int)) * x0)))) with
                  | true =>
                    cases (decide (Int.toNat (IntKind.wrap IntKind.i64 (IntKind.wrap IntKind.i64 (x3 + (1 : Int)) * x0)) ≤ List.length (val (v33 x0 x1 x2 x2)))) with
                    | true =>
                      cases (decide (List.length (List.drop (Int.toNat (IntKind.wrap IntKind.i64 (x3 * x0))) (List.take (Int.toNat (IntKind.wrap IntKind.i64 (IntKind.wrap IntKind.i64 (x3 + (1 : Int)) * x0))) (val (v33 x0 x1 x2 x2)))) ≤ nat_lit 2147483648)) with
                      | true =>
                        rfl
                      | false =>
                        rfl
                    | false =>
                      rfl
                  | false =>
                    rfl
                | false =>
                  rfl
              | false =>
                rfl
            | false =>
              rfl
          | false =>
            rfl
      | false =>
        rfl
  | false =>
    rfl
def sv18 : OrcS := fun al H => match al, H with
  | [.agg [.int .i64 (x0), .d 5 (.int .u8) (x1), .d 44 (.pair (.int .i64) (.list 5 (.int .u8))) (x2)], .sc (.int .i64 (x3))], [] => some (ok (v18 x0 x1 x2 x3), [.sc (.d 5 (.int .u8) ((val (v18 x0 x1 x2 x3)).1)), .sc (.int .i64 ((val (v18 x0 x1 x2 x3)).2))], [])
  | _, _ => none
theorem wv18 : NewOrc Try.prog dOk base o14 t14 (18, sv18) := by
  intro al H q hq hq1
  have hq : sv18 al H = some q := hq
  unfold sv18 at hq
  split at hq
  · cases hq
    exact ⟨41, (ev18 _ _ _ _).trans (ok_bind hq1)⟩
  · cases hq
def o15 : OrcT := (14, sv14) :: (16, sv16) :: (18, sv18) :: o14
def t15 : TellT := t14
abbrev tn15 : FuncId → TAn := mkTn base o15 t15
theorem ok15 : TnOk Try.prog tn15 (mkA base) dOk := by
  have h0 : TnOk Try.prog (mkTn base o14 t14) (mkA base) dOk := ok14
  have h1 := tn_orc h0 h0 (p := (18, sv18)) wv18
  have h2 := tn_orc h0 h1 (p := (16, sv16)) wv16
  have h3 := tn_orc h0 h2 (p := (14, sv14)) wv14
  exact h3
end Go.Proofs.Ytchgjjgdgbecmaa
set_option maxRecDepth 1000000
set_option linter.unusedVariables false
set_option maxHeartbeats 4000000
namespace Go.Proofs.Ytchgjjgdgbecmaa
open Go Go.AM Go.TM Go.Proofs
/-- queuelablaw35.write: the loop 0 -/
def L29_0_0 : Nat → (List (Int × (Int × Int))) → Int → Int → Int → (List Int) → (List (Int × (List Int))) → Int → (List Int) → (List (Int × (List Int))) → Option ((Bool × Int × (List Int) × (List (Int × (List Int)))) ⊕ (Int × (List Int) × (List (Int × (List Int)))))
  | 0, _, _, _, _, _, _, _, _, _ => none
  | n + 1, x0, x1, x2, x3, x4, x5, x6, x7, x8 => (cond (decide (x2 < x1)) (cond (decide ((0 : Int) ≤ x2)) (cond (decide (x2 < (↑(List.length x0) : Int))) (cond (ok (v12 x3 x4 x5 (IntKind.wrap IntKind.i64 (Prod.fst (List.getD x0 (Int.toNat x2) ((0 : Int), (0 : Int), (0 : Int))))) [Prod.fst (Prod.snd (List.getD x0 (Int.toNat x2) ((0 : Int), (0 : Int), (0 : Int)))), Prod.snd (Prod.snd (List.getD x0 (Int.toNat x2) ((0 : Int), (0 : Int), (0 : Int))))])) (cond (Prod.snd (Prod.snd (Prod.snd (val (v12 x3 x4 x5 (IntKind.wrap IntKind.i64 (Prod.fst (List.getD x0 (Int.toNat x2) ((0 : Int), (0 : Int), (0 : Int))))) [Prod.fst (Prod.snd (List.getD x0 (Int.toNat x2) ((0 : Int), (0 : Int), (0 : Int)))), Prod.snd (Prod.snd (List.getD x0 (Int.toNat x2) ((0 : Int), (0 : Int), (0 : Int))))])))) != (0 : Int)) (some (.inl (false, x3, x4, x5))) (L29_0_0 n (x0) (x1) (IntKind.wrap IntKind.i64 (x2 + (1 : Int))) (Prod.fst (val (v12 x3 x4 x5 (IntKind.wrap IntKind.i64 (Prod.fst (List.getD x0 (Int.toNat x2) ((0 : Int), (0 : Int), (0 : Int))))) [Prod.fst (Prod.snd (List.getD x0 (Int.toNat x2) ((0 : Int), (0 : Int), (0 : Int)))), Prod.snd (Prod.snd (List.getD x0 (Int.toNat x2) ((0 : Int), (0 : Int), (0 : Int))))]))) (Prod.fst (Prod.snd (val (v12 x3 x4 x5 (IntKind.wrap IntKind.i64 (Prod.fst (List.getD x0 (Int.toNat x2) ((0 : Int), (0 : Int), (0 : Int))))) [Prod.fst (Prod.snd (List.getD x0 (Int.toNat x2) ((0 : Int), (0 : Int), (0 : Int)))), Prod.snd (Prod.snd (List.getD x0 (Int.toNat x2) ((0 : Int), (0 : Int), (0 : Int))))])))) (Prod.fst (Prod.snd (Prod.snd (val (v12 x3 x4 x5 (IntKind.wrap IntKind.i64 (Prod.fst (List.getD x0 (Int.toNat x2) ((0 : Int), (0 : Int), (0 : Int))))) [Prod.fst (Prod.snd (List.getD x0 (Int.toNat x2) ((0 : Int), (0 : Int), (0 : Int)))), Prod.snd (Prod.snd (List.getD x0 (Int.toNat x2) ((0 : Int), (0 : Int), (0 : Int))))]))))) (x6) (x7) (x8))) none) none) none) (some (.inr (x3, x4, x5))))
theorem qL29_0_0 (n : Nat) (x0 : (List (Int × (Int × Int)))) (x1 : Int) (x2 : Int) (x3 : Int) (x4 : (List Int)) (x5 : (List (Int × (List Int)))) (x6 : Int) (x7 : (List Int)) (x8 : (List (Int × (List Int)))) : L29_0_0 (n + 1) x0 x1 x2 x3 x4 x5 x6 x7 x8 = (cond (decide (x2 < x1)) (cond (decide ((0 : Int) ≤ x2)) (cond (decide (x2 < (↑(List.length x0) : Int))) (cond (ok (v12 x3 x4 x5 (IntKind.wrap IntKind.i64 (Prod.fst (List.getD x0 (Int.toNat x2) ((0 : Int), (0 : Int), (0 : Int))))) [Prod.fst (Prod.snd (List.getD x0 (Int.toNat x2) ((0 : Int), (0 : Int), (0 : Int)))), Prod.snd (Prod.snd (List.getD x0 (Int.toNat x2) ((0 : Int), (0 : Int), (0 : Int))))])) (cond (Prod.snd (Prod.snd (Prod.snd (val (v12 x3 x4 x5 (IntKind.wrap IntKind.i64 (Prod.fst (List.getD x0 (Int.toNat x2) ((0 : Int), (0 : Int), (0 : Int))))) [Prod.fst (Prod.snd (List.getD x0 (Int.toNat x2) ((0 : Int), (0 : Int), (0 : Int)))), Prod.snd (Prod.snd (List.getD x0 (Int.toNat x2) ((0 : Int), (0 : Int), (0 : Int))))])))) != (0 : Int)) (some (.inl (false, x3, x4, x5))) (L29_0_0 n (x0) (x1) (IntKind.wrap IntKind.i64 (x2 + (1 : Int))) (Prod.fst (val (v12 x3 x4 x5 (IntKind.wrap IntKind.i64 (Prod.fst (List.getD x0 (Int.toNat x2) ((0 : Int), (0 : Int), (0 : Int))))) [Prod.fst (Prod.snd (List.getD x0 (Int.toNat x2) ((0 : Int), (0 : Int), (0 : Int)))), Prod.snd (Prod.snd (List.getD x0 (Int.toNat x2) ((0 : Int), (0 : Int), (0 : Int))))]))) (Prod.fst (Prod.snd (val (v12 x3 x4 x5 (IntKind.wrap IntKind.i64 (Prod.fst (List.getD x0 (Int.toNat x2) ((0 : Int), (0 : Int), (0 : Int))))) [Prod.fst (Prod.snd (List.getD x0 (Int.toNat x2) ((0 : Int), (0 : Int), (0 : Int)))), Prod.snd (Prod.snd (List.getD x0 (Int.toNat x2) ((0 : Int), (0 : Int), (0 : Int))))])))) (Prod.fst (Prod.snd (Prod.snd (val (v12 x3 x4 x5 (IntKind.wrap IntKind.i64 (Prod.fst (List.getD x0 (Int.toNat x2) ((0 : Int), (0 : Int), (0 : Int))))) [Prod.fst (Prod.snd (List.getD x0 (Int.toNat x2) ((0 : Int), (0 : Int), (0 : Int)))), Prod.snd (Prod.snd (List.getD x0 (Int.toNat x2) ((0 : Int), (0 : Int), (0 : Int))))]))))) (x6) (x7) (x8))) none) none) none) (some (.inr (x3, x4, x5)))) := by rfl
def xL29_0_0 (x0 : (List (Int × (Int × Int)))) (x1 : Int) (x2 : Int) (x3 : Int) (x4 : (List Int)) (x5 : (List (Int × (List Int)))) (x6 : Int) (x7 : (List Int)) (x8 : (List (Int × (List Int)))) : ((Bool × Int × (List Int) × (List (Int × (List Int)))) ⊕ (Int × (List Int) × (List (Int × (List Int))))) → Ex × CS := fun r => match r with | .inl a0 => (.ret, { sl := [(2, .l 2 0), (4, .l 4 0), (5, .v (.sc (.bool (a0.1)))), (8, .l 8 0)], lo := [(4, [.int .i64 (a0.2.1), .d 5 (.int .u8) (a0.2.2.1), .d 44 (.pair (.int .i64) (.list 5 (.int .u8))) (a0.2.2.2)])], h := [], n0 := 0 }) | .inr b0 => ((.exit 0), { sl := [(2, .l 2 0), (4, .l 4 0)], lo := [(2, [.int .i64 (b0.1), .d 5 (.int .u8) (b0.2.1), .d 44 (.pair (.int .i64) (.list 5 (.int .u8))) (b0.2.2)]), (4, [.int .i64 (x6), .g 0, .g 1])], h := [.row 5 (.int .u8) (x7), .row 44 (.pair (.int .i64) (.list 5 (.int .u8))) (x8)], n0 := 0 })
theorem bL29_0_0 (k : Nat) (cN : CS → Option (Ex × CS)) (cX : Ex → CS → Option (Ex × CS)) (x0 : (List (Int × (Int × Int)))) (x1 : Int) (x2 : Int) (x3 : Int) (x4 : (List Int)) (x5 : (List (Int × (List Int)))) (x6 : Int) (x7 : (List Int)) (x8 : (List (Int × (List Int)))) : loopBody Try.prog (mkTn base o15 t15 29) (TM.evF Try.prog (mkTn base o15 t15) dOk (k + 40)) dOk (k + 40) (codeAt Try.prog (tn0 29) 29 0) 0 0 { sl := [(2, .l 2 0), (4, .l 4 0), (10, .v (.sc (.d 54 (.pair (.int .u8) (.pair (.int .u8) (.int .u8))) (x0)))), (11, .v (.sc (.int .i64 (x1)))), (12, .v (.sc (.int .i64 (x2))))], lo := [(2, [.int .i64 (x3), .d 5 (.int .u8) (x4), .d 44 (.pair (.int .i64) (.list 5 (.int .u8))) (x5)]), (4, [.int .i64 (x6), .g 0, .g 1])], h := [.row 5 (.int .u8) (x7), .row 44 (.pair (.int .i64) (.list 5 (.int .u8))) (x8)], n0 := 0 } cN cX = (cond (decide (x2 < x1)) (cond (decide ((0 : Int) ≤ x2)) (cond (decide (x2 < (↑(List.length x0) : Int))) (cond (ok (v12 x3 x4 x5 (IntKind.wrap IntKind.i64 (Prod.fst (List.getD x0 (Int.toNat x2) ((0 : Int), (0 : Int), (0 : Int))))) [Prod.fst (Prod.snd (List.getD x0 (Int.toNat x2) ((0 : Int), (0 : Int), (0 : Int)))), Prod.snd (Prod.snd (List.getD x0 (Int.toNat x2) ((0 : Int), (0 : Int), (0 : Int))))])) (cond (Prod.snd (Prod.snd (Prod.snd (val (v12 x3 x4 x5 (IntKind.wrap IntKind.i64 (Prod.fst (List.getD x0 (Int.toNat x2) ((0 : Int), (0 : Int), (0 : Int))))) [Prod.fst (Prod.snd (List.getD x0 (Int.toNat x2) ((0 : Int), (0 : Int), (0 : Int)))), Prod.snd (Prod.snd (List.getD x0 (Int.toNat x2) ((0 : Int), (0 : Int), (0 : Int))))])))) != (0 : Int)) (cX .ret { sl := [(2, .l 2 0), (4, .l 4 0), (5, .v (.sc (.bool (false)))), (8, .l 8 0)], lo := [(4, [.int .i64 (x3), .d 5 (.int .u8) (x4), .d 44 (.pair (.int .i64) (.list 5 (.int .u8))) (x5)])], h := [], n0 := 0 }) (cN { sl := [(2, .l 2 0), (4, .l 4 0), (10, .v (.sc (.d 54 (.pair (.int .u8) (.pair (.int .u8) (.int .u8))) (x0)))), (11, .v (.sc (.int .i64 (x1)))), (12, .v (.sc (.int .i64 (IntKind.wrap IntKind.i64 (x2 + (1 : Int))))))], lo := [(2, [.int .i64 (Prod.fst (val (v12 x3 x4 x5 (IntKind.wrap IntKind.i64 (Prod.fst (List.getD x0 (Int.toNat x2) ((0 : Int), (0 : Int), (0 : Int))))) [Prod.fst (Prod.snd (List.getD x0 (Int.toNat x2) ((0 : Int), (0 : Int), (0 : Int)))), Prod.snd (Prod.snd (List.getD x0 (Int.toNat x2) ((0 : Int), (0 : Int), (0 : Int))))]))), .d 5 (.int .u8) (Prod.fst (Prod.snd (val (v12 x3 x4 x5 (IntKind.wrap IntKind.i64 (Prod.fst (List.getD x0 (Int.toNat x2) ((0 : Int), (0 : Int), (0 : Int))))) [Prod.fst (Prod.snd (List.getD x0 (Int.toNat x2) ((0 : Int), (0 : Int), (0 : Int)))), Prod.snd (Prod.snd (List.getD x0 (Int.toNat x2) ((0 : Int), (0 : Int), (0 : Int))))])))), .d 44 (.pair (.int .i64) (.list 5 (.int .u8))) (Prod.fst (Prod.snd (Prod.snd (val (v12 x3 x4 x5 (IntKind.wrap IntKind.i64 (Prod.fst (List.getD x0 (Int.toNat x2) ((0 : Int), (0 : Int), (0 : Int))))) [Prod.fst (Prod.snd (List.getD x0 (Int.toNat x2) ((0 : Int), (0 : Int), (0 : Int)))), Prod.snd (Prod.snd (List.getD x0 (Int.toNat x2) ((0 : Int), (0 : Int), (0 : Int))))])))))]), (4, [.int .i64 (x6), .g 0, .g 1])], h := [.row 5 (.int .u8) (x7), .row 44 (.pair (.int .i64) (.list 5 (.int .u8))) (x8)], n0 := 0 })) none) none) none) (cX (.exit 0) { sl := [(2, .l 2 0), (4, .l 4 0)], lo := [(2, [.int .i64 (x3), .d 5 (.int .u8) (x4), .d 44 (.pair (.int .i64) (.list 5 (.int .u8))) (x5)]), (4, [.int .i64 (x6), .g 0, .g 1])], h := [.row 5 (.int .u8) (x7), .row 44 (.pair (.int .i64) (.list 5 (.int .u8))) (x8)], n0 := 0 })) := by kernel_rfl
theorem lL29_0_0 (k m : Nat) : ∀ (n : Nat) (x0 : (List (Int × (Int × Int)))) (x1 : Int) (x2 : Int) (x3 : Int) (x4 : (List Int)) (x5 : (List (Int × (List Int)))) (x6 : Int) (x7 : (List Int)) (x8 : (List (Int × (List Int)))) (r : ((Bool × Int × (List Int) × (List (Int × (List Int)))) ⊕ (Int × (List Int) × (List (Int × (List Int)))))), L29_0_0 n x0 x1 x2 x3 x4 x5 x6 x7 x8 = some r → loopE Try.prog (mkTn base o15 t15 29) (TM.evF Try.prog (mkTn base o15 t15) dOk (k + 40)) dOk (k + 40) (codeAt Try.prog (tn0 29) 29 0) 0 0 (n + m) { sl := [(2, .l 2 0), (4, .l 4 0), (10, .v (.sc (.d 54 (.pair (.int .u8) (.pair (.int .u8) (.int .u8))) (x0)))), (11, .v (.sc (.int .i64 (x1)))), (12, .v (.sc (.int .i64 (x2))))], lo := [(2, [.int .i64 (x3), .d 5 (.int .u8) (x4), .d 44 (.pair (.int .i64) (.list 5 (.int .u8))) (x5)]), (4, [.int .i64 (x6), .g 0, .g 1])], h := [.row 5 (.int .u8) (x7), .row 44 (.pair (.int .i64) (.list 5 (.int .u8))) (x8)], n0 := 0 } = some (xL29_0_0 x0 x1 x2 x3 x4 x5 x6 x7 x8 r) := by
  intro n
  induction n with
  | zero => intro _ _ _ _ _ _ _ _ _ r h; cases h
  | succ n ih =>
    intro x0 x1 x2 x3 x4 x5 x6 x7 x8 r
    rw [show n + 1 + m = n + m + 1 by omega, loop_step, bL29_0_0, qL29_0_0]
    cases (decide (x2 < x1)) with
    | true =>
      cases (decide ((0 : Int) ≤ x2)) with
      | true =>
        cases (decide (x2 < (↑(List.length x0) : Int))) with
        | true =>
          cases (ok (v12 x3 x4 x5 (IntKind.wrap IntKind.i64 (Prod.fst (List.getD x0 (Int.toNat x2) ((0 : Int), (0 : Int), (0 : Int))))) [Prod.fst (Prod.snd (List.getD x0 (Int.toNat x2) ((0 : Int), (0 : Int), (0 : Int)))), Prod.snd (Prod.snd (List.getD x0 (Int.toNat x2) ((0 : Int), (0 : Int), (0 : Int))))])) with
          | true =>
            cases (Prod.snd (Prod.snd (Prod.snd (val (v12 x3 x4 x5 (IntKind.wrap IntKind.i64 (Prod.fst (List.getD x0 (Int.toNat x2) ((0 : Int), (0 : Int), (0 : Int))))) [Prod.fst (Prod.snd (List.getD x0 (Int.toNat x2) ((0 : Int), (0 : Int), (0 : Int)))), Prod.snd (Prod.snd (List.getD x0 (Int.toNat x2) ((0 : Int), (0 : Int), (0 : Int))))])))) != (0 : Int)) with
            | true =>
              intro h; cases h; rfl
            | false =>
              exact ih _ _ _ _ _ _ _ _ _ r
          | false =>
            intro h; cases h
        | false =>
          intro h; cases h
      | false =>
        intro h; cases h
    | false =>
      intro h; cases h; rfl
def sL29_0_0 : TellS := fun S => match S with
  | { sl := [(2, .l 2 0), (4, .l 4 0), (10, .v (.sc (.d 54 (.pair (.int .u8) (.pair (.int .u8) (.int .u8))) (x0)))), (11, .v (.sc (.int .i64 (x1)))), (12, .v (.sc (.int .i64 (x2))))], lo := [(2, [.int .i64 (x3), .d 5 (.int .u8) (x4), .d 44 (.pair (.int .i64) (.list 5 (.int .u8))) (x5)]), (4, [.int .i64 (x6), .g 0, .g 1])], h := [.row 5 (.int .u8) (x7), .row 44 (.pair (.int .i64) (.list 5 (.int .u8))) (x8)], n0 := 0 } => some [(isL (L29_0_0 FU x0 x1 x2 x3 x4 x5 x6 x7 x8), .ret, { sl := [(2, .l 2 0), (4, .l 4 0), (5, .v (.sc (.bool ((getL (L29_0_0 FU x0 x1 x2 x3 x4 x5 x6 x7 x8)).1)))), (8, .l 8 0)], lo := [(4, [.int .i64 ((getL (L29_0_0 FU x0 x1 x2 x3 x4 x5 x6 x7 x8)).2.1), .d 5 (.int .u8) ((getL (L29_0_0 FU x0 x1 x2 x3 x4 x5 x6 x7 x8)).2.2.1), .d 44 (.pair (.int .i64) (.list 5 (.int .u8))) ((getL (L29_0_0 FU x0 x1 x2 x3 x4 x5 x6 x7 x8)).2.2.2)])], h := [], n0 := 0 }), (ok (getR (L29_0_0 FU x0 x1 x2 x3 x4 x5 x6 x7 x8)), (.exit 0), { sl := [(2, .l 2 0), (4, .l 4 0)], lo := [(2, [.int .i64 ((val (getR (L29_0_0 FU x0 x1 x2 x3 x4 x5 x6 x7 x8))).1), .d 5 (.int .u8) ((val (getR (L29_0_0 FU x0 x1 x2 x3 x4 x5 x6 x7 x8))).2.1), .d 44 (.pair (.int .i64) (.list 5 (.int .u8))) ((val (getR (L29_0_0 FU x0 x1 x2 x3 x4 x5 x6 x7 x8))).2.2)]), (4, [.int .i64 (x6), .g 0, .g 1])], h := [.row 5 (.int .u8) (x7), .row 44 (.pair (.int .i64) (.list 5 (.int .u8))) (x8)], n0 := 0 })]
  | _ => none
theorem wL29_0_0 : NewTell Try.prog dOk base o15 t15 ((29, 0), sL29_0_0) := by
  refine ⟨.loop (codeAt Try.prog (tn0 29) 29 0), 0, by kernel_rfl, ?_⟩
  intro S alts e S' h1 h2
  have h1 : sL29_0_0 S = some alts := h1
  unfold sL29_0_0 at h1
  split at h1
  · cases h1
    rcases pick_cons h2 with ⟨hc0, rfl, rfl⟩ | h2
    · exact ⟨FU + 40, (evPiece_loop rfl).trans (lL29_0_0 FU 40 FU _ _ _ _ _ _ _ _ _ _ (isL_val hc0))⟩
    obtain ⟨hc1, rfl, rfl⟩ := pick_one h2
    exact ⟨FU + 40, (evPiece_loop rfl).trans (lL29_0_0 FU 40 FU _ _ _ _ _ _ _ _ _ _ (getR_val (ok_val hc1)))⟩
  · cases h1
def o16 : OrcT := o15
def t16 : TellT := ((29, 0), sL29_0_0) :: t15
abbrev tn16 : FuncId → TAn := mkTn base o16 t16
theorem ok16 : TnOk Try.prog tn16 (mkA base) dOk := by
  have h0 : TnOk Try.prog (mkTn base o15 t15) (mkA base) dOk := ok15
  have h1 := tn_tell h0 h0 (p := ((29, 0), sL29_0_0)) wL29_0_0
  exact h1
end Go.Proofs.Ytchgjjgdgbecmaa
set_option maxRecDepth 1000000
set_option linter.unusedVariables false
set_option maxHeartbeats 4000000
namespace Go.Proofs.Ytchgjjgdgbecmaa
open Go Go.AM Go.TM Go.Proofs
/-- queuelablaw35.write -/
def v29 (x0 : Int) (x1 : (List Int)) (x2 : (List (Int × (List Int)))) (x3 : (List (Int × (Int × Int)))) : Option (Int × (List Int) × (List (Int × (List Int))) × Bool) := (cond (isL (L29_0_0 FU x3 (↑(List.length x3) : Int) (0 : Int) x0 x1 x2 (0 : Int) [] [])) (some (Prod.fst (Prod.snd (getL (L29_0_0 FU x3 (↑(List.length x3) : Int) (0 : Int) x0 x1 x2 (0 : Int) [] []))), Prod.fst (Prod.snd (Prod.snd (getL (L29_0_0 FU x3 (↑(List.length x3) : Int) (0 : Int) x0 x1 x2 (0 : Int) [] [])))), Prod.snd (Prod.snd (Prod.snd (getL (L29_0_0 FU x3 (↑(List.length x3) : Int) (0 : Int) x0 x1 x2 (0 : Int) [] [])))), Prod.fst (getL (L29_0_0 FU x3 (↑(List.length x3) : Int) (0 : Int) x0 x1 x2 (0 : Int) [] [])))) (cond (ok (getR (L29_0_0 FU x3 (↑(List.length x3) : Int) (0 : Int) x0 x1 x2 (0 : Int) [] []))) (some (Prod.fst (val (getR (L29_0_0 FU x3 (↑(List.length x3) : Int) (0 : Int) x0 x1 x2 (0 : Int) [] []))), Prod.fst (Prod.snd (val (getR (L29_0_0 FU x3 (↑(List.length x3) : Int) (0 : Int) x0 x1 x2 (0 : Int) [] [])))), Prod.snd (Prod.snd (val (getR (L29_0_0 FU x3 (↑(List.length x3) : Int) (0 : Int) x0 x1 x2 (0 : Int) [] [])))), true)) none))
theorem ev29 (x0 : Int) (x1 : (List Int)) (x2 : (List (Int × (List Int)))) (x3 : (List (Int × (Int × Int)))) : fnBody Try.prog (mkTn base o16 t16 29) (TM.evF Try.prog (mkTn base o16 t16) dOk 40) dOk 40 29 [.agg [.int .i64 (x0), .d 5 (.int .u8) (x1), .d 44 (.pair (.int .i64) (.list 5 (.int .u8))) (x2)], .sc (.d 54 (.pair (.int .u8) (.pair (.int .u8) (.int .u8))) (x3))] [] = (v29 x0 x1 x2 x3).bind fun r => some ([.agg [.int .i64 (r.1), .d 5 (.int .u8) (r.2.1), .d 44 (.pair (.int .i64) (.list 5 (.int .u8))) (r.2.2.1)], .sc (.bool (r.2.2.2))], []) := by
  have h : fnBody Try.prog (mkTn base o16 t16 29) (TM.evF Try.prog (mkTn base o16 t16) dOk 40) dOk 40 29 [.agg [.int .i64 (x0), .d 5 (.int .u8) (x1), .d 44 (.pair (.int .i64) (.list 5 (.int .u8))) (x2)], .sc (.d 54 (.pair (.int .u8) (.pair (.int .u8) (.int .u8))) (x3))] [] = (cond (isL (L29_0_0 FU x3 (↑(List.length x3) : Int) (0 : Int) x0 x1 x2 (0 : Int) [] [])) (some ([.agg [.int .i64 (Prod.fst (Prod.snd (getL (L29_0_0 FU x3 (↑(List.length x3) : Int) (0 : Int) x0 x1 x2 (0 : Int) [] [])))), .d 5 (.int .u8) (Prod.fst (Prod.snd (Prod.snd (getL (L29_0_0 FU x3 (↑(List.length x3) : Int) (0 : Int) x0 x1 x2 (0 : Int) [] []))))), .d 44 (.pair (.int .i64) (.list 5 (.int .u8))) (Prod.snd (Prod.snd (Prod.snd (getL (L29_0_0 FU x3 (↑(List.length x3) : Int) (0 : Int) x0 x1 x2 (0 : Int) [] [])))))], .sc (.bool (Prod.fst (getL (L29_0_0 FU x3 (↑(List.length x3) : Int) (0 : Int) x0 x1 x2 (0 : Int) [] []))))], [])) (cond (ok (getR (L29_0_0 FU x3 (↑(List.length x3) : Int) (0 : Int) x0 x1 x2 (0 : Int) [] []))) (some ([.agg [.int .i64 (Prod.fst (val (getR (L29_0_0 FU x3 (↑(List.length x3) : Int) (0 : Int) x0 x1 x2 (0 : Int) [] [])))), .d 5 (.int .u8) (Prod.fst (Prod.snd (val (getR (L29_0_0 FU x3 (↑(List.length x3) : Int) (0 : Int) x0 x1 x2 (0 : Int) [] []))))), .d 44 (.pair (.int .i64) (.list 5 (.int .u8))) (Prod.snd (Prod.snd (val (getR (L29_0_0 FU x3 (↑(List.length x3) : Int) (0 : Int) x0 x1 x2 (0 : Int) [] [])))))], .sc (.bool (true))], [])) none)) := by kernel_rfl
  rw [h]
  unfold v29
  cases (isL (L29_0_0 FU x3 (↑(List.length x3) : Int) (0 : Int) x0 x1 x2 (0 : Int) [] [])) with
  | true =>
    rfl
  | false =>
    cases (ok (getR (L29_0_0 FU x3 (↑(List.length x3) : Int) (0 : Int) x0 x1 x2 (0 : Int) [] []))) with
    | true =>
      rfl
    | false =>
      rfl
def sv29 : OrcS := fun al H => match al, H with
  | [.agg [.int .i64 (x0), .d 5 (.int .u8) (x1), .d 44 (.pair (.int .i64) (.list 5 (.int .u8))) (x2)], .sc (.d 54 (.pair (.int .u8) (.pair (.int .u8) (.int .u8))) (x3))], [] => some (ok (v29 x0 x1 x2 x3), [.agg [.int .i64 ((val (v29 x0 x1 x2 x3)).1), .d 5 (.int .u8) ((val (v29 x0 x1 x2 x3)).2.1), .d 44 (.pair (.int .i64) (.list 5 (.int .u8))) ((val (v29 x0 x1 x2 x3)).2.2.1)], .sc (.bool ((val (v29 x0 x1 x2 x3)).2.2.2))], [])
  | _, _ => none
theorem wv29 : NewOrc Try.prog dOk base o16 t16 (29, sv29) := by
  intro al H q hq hq1
  have hq : sv29 al H = some q := hq
  unfold sv29 at hq
  split at hq
  · cases hq
    exact ⟨41, (ev29 _ _ _ _).trans (ok_bind hq1)⟩
  · cases hq
def o17 : OrcT := (29, sv29) :: o16
def t17 : TellT := t16
abbrev tn17 : FuncId → TAn := mkTn base o17 t17
theorem ok17 : TnOk Try.prog tn17 (mkA base) dOk := by
  have h0 : TnOk Try.prog (mkTn base o16 t16) (mkA base) dOk := ok16
  have h1 := tn_orc h0 h0 (p := (29, sv29)) wv29
  exact h1
end Go.Proofs.Ytchgjjgdgbecmaa
set_option maxRecDepth 1000000
set_option linter.unusedVariables false
set_option maxHeartbeats 4000000
namespace Go.Proofs.Ytchgjjgdgbecmaa
open Go Go.AM Go.TM Go.Proofs
/-- queuelablaw35.head -/
def v10 : Option Bool := (some (true))
theorem ev10 : fnBody Try.prog (mkTn base o17 t17 10) (TM.evF Try.prog (mkTn base o17 t17) dOk 40) dOk 40 10 [] [] = (v10).bind fun r => some ([.sc (.bool (r))], []) := by
  have h : fnBody Try.prog (mkTn base o17 t17 10) (TM.evF Try.prog (mkTn base o17 t17) dOk 40) dOk 40 10 [] [] = (some ([.sc (.bool (true))], [])) := by kernel_rfl
  rw [h]
  unfold v10
  rfl
def sv10 : OrcS := fun al H => match al, H with
  | [], [] => some (ok (v10), [.sc (.bool ((val (v10))))], [])
  | _, _ => none
theorem wv10 : NewOrc Try.prog dOk base o17 t17 (10, sv10) := by
  intro al H q hq hq1
  have hq : sv10 al H = some q := hq
  unfold sv10 at hq
  split at hq
  · cases hq
    exact ⟨41, (ev10 ).trans (ok_bind hq1)⟩
  · cases hq
def o18 : OrcT := (10, sv10) :: o17
def t18 : TellT := t17
abbrev tn18 : FuncId → TAn := mkTn base o18 t18
theorem ok18 : TnOk Try.prog tn18 (mkA base) dOk := by
  have h0 : TnOk Try.prog (mkTn base o17 t17) (mkA base) dOk := ok17
  have h1 := tn_orc h0 h0 (p := (10, sv10)) wv10
  exact h1
end Go.Proofs.Ytchgjjgdgbecmaa
set_option maxRecDepth 1000000
set_option linter.unusedVariables false
set_option maxHeartbeats 4000000
namespace Go.Proofs.Ytchgjjgdgbecmaa
open Go Go.AM Go.TM Go.Proofs
/-- queuelablaw35.DiskMatchesReference: the piece 36 -/
def L3_36_0 (x0 : Int) (x1 : Int) (x2 : (List Int)) (x3 : (List Bool)) (x4 : Int) (x5 : Int) (x6 : Bool) (x7 : Int) (x8 : (List Int)) (x9 : (List (Int × (List Int)))) : Option Bool := (cond (ok (v12 x7 x8 x9 x0 x2)) (cond (ok (v13 x7 x8 x9 x0 x2)) (cond (ok (v14 x7 x8 x9)) (cond (ok (v15 x7 x8 x9)) (cond (ok (v16 x7 x8 x9 x3 x4 x5)) (cond (ok (v17 x7 x8 x9 x3 x4 x5)) (cond (ok (v18 x7 x8 x9 x0)) (cond (ok (v19 x7 x8 x9 x0)) (cond (ok (v20 x0 x1)) (cond (ok (v21 x0 x1)) (cond (x6) (cond (ok (v22 (Prod.fst (val (v12 x7 x8 x9 x0 x2))) (Prod.fst (Prod.snd (val (v12 x7 x8 x9 x0 x2)))) (Prod.fst (Prod.snd (Prod.snd (val (v12 x7 x8 x9 x0 x2))))) (Prod.fst (val (v13 x7 x8 x9 x0 x2))) (Prod.fst (Prod.snd (val (v13 x7 x8 x9 x0 x2)))) (Prod.fst (Prod.snd (Prod.snd (val (v13 x7 x8 x9 x0 x2))))))) (cond (val (v22 (Prod.fst (val (v12 x7 x8 x9 x0 x2))) (Prod.fst (Prod.snd (val (v12 x7 x8 x9 x0 x2)))) (Prod.fst (Prod.snd (Prod.snd (val (v12 x7 x8 x9 x0 x2))))) (Prod.fst (val (v13 x7 x8 x9 x0 x2))) (Prod.fst (Prod.snd (val (v13 x7 x8 x9 x0 x2)))) (Prod.fst (Prod.snd (Prod.snd (val (v13 x7 x8 x9 x0 x2))))))) (cond (Prod.snd (Prod.snd (Prod.snd (val (v12 x7 x8 x9 x0 x2)))) == Prod.snd (Prod.snd (Prod.snd (val (v13 x7 x8 x9 x0 x2))))) (cond (ok (v22 (Prod.fst (val (v14 x7 x8 x9))) (Prod.fst (Prod.snd (val (v14 x7 x8 x9)))) (Prod.fst (Prod.snd (Prod.snd (val (v14 x7 x8 x9))))) (Prod.fst (val (v15 x7 x8 x9))) (Prod.fst (Prod.snd (val (v15 x7 x8 x9)))) (Prod.fst (Prod.snd (Prod.snd (val (v15 x7 x8 x9))))))) (cond (val (v22 (Prod.fst (val (v14 x7 x8 x9))) (Prod.fst (Prod.snd (val (v14 x7 x8 x9)))) (Prod.fst (Prod.snd (Prod.snd (val (v14 x7 x8 x9))))) (Prod.fst (val (v15 x7 x8 x9))) (Prod.fst (Prod.snd (val (v15 x7 x8 x9)))) (Prod.fst (Prod.snd (Prod.snd (val (v15 x7 x8 x9))))))) (cond (Prod.snd (Prod.snd (Prod.snd (val (v14 x7 x8 x9)))) == Prod.snd (Prod.snd (Prod.snd (val (v15 x7 x8 x9))))) (cond (ok (v22 (Prod.fst (val (v16 x7 x8 x9 x3 x4 x5))) (Prod.fst (Prod.snd (val (v16 x7 x8 x9 x3 x4 x5)))) (Prod.fst (Prod.snd (Prod.snd (val (v16 x7 x8 x9 x3 x4 x5))))) (Prod.fst (val (v17 x7 x8 x9 x3 x4 x5))) (Prod.fst (Prod.snd (val (v17 x7 x8 x9 x3 x4 x5)))) (Prod.fst (Prod.snd (Prod.snd (val (v17 x7 x8 x9 x3 x4 x5))))))) (cond (val (v22 (Prod.fst (val (v16 x7 x8 x9 x3 x4 x5))) (Prod.fst (Prod.snd (val (v16 x7 x8 x9 x3 x4 x5)))) (Prod.fst (Prod.snd (Prod.snd (val (v16 x7 x8 x9 x3 x4 x5))))) (Prod.fst (val (v17 x7 x8 x9 x3 x4 x5))) (Prod.fst (Prod.snd (val (v17 x7 x8 x9 x3 x4 x5)))) (Prod.fst (Prod.snd (Prod.snd (val (v17 x7 x8 x9 x3 x4 x5))))))) (cond (Prod.snd (Prod.snd (Prod.snd (val (v16 x7 x8 x9 x3 x4 x5)))) == Prod.snd (Prod.snd (Prod.snd (val (v17 x7 x8 x9 x3 x4 x5))))) (cond (ok (v23 (Prod.fst (val (v18 x7 x8 x9 x0))) (Prod.fst (val (v19 x7 x8 x9 x0))))) (cond (val (v23 (Prod.fst (val (v18 x7 x8 x9 x0))) (Prod.fst (val (v19 x7 x8 x9 x0))))) (cond (Prod.snd (val (v18 x7 x8 x9 x0)) == Prod.snd (val (v19 x7 x8 x9 x0))) (cond (ok (v22 (Prod.fst (val (v20 x0 x1))) (Prod.fst (Prod.snd (val (v20 x0 x1)))) (Prod.fst (Prod.snd (Prod.snd (val (v20 x0 x1))))) (Prod.fst (val (v21 x0 x1))) (Prod.fst (Prod.snd (val (v21 x0 x1)))) (Prod.fst (Prod.snd (Prod.snd (val (v21 x0 x1))))))) (cond (val (v22 (Prod.fst (val (v20 x0 x1))) (Prod.fst (Prod.snd (val (v20 x0 x1)))) (Prod.fst (Prod.snd (Prod.snd (val (v20 x0 x1))))) (Prod.fst (val (v21 x0 x1))) (Prod.fst (Prod.snd (val (v21 x0 x1)))) (Prod.fst (Prod.snd (Prod.snd (val (v21 x0 x1))))))) (cond (Prod.snd (Prod.snd (Prod.snd (val (v20 x0 x1)))) == Prod.snd (Prod.snd (Prod.snd (val (v21 x0 x1))))) (cond (ok (v24 x7 x8 x9)) (cond (ok (v25 x7 x8 x9)) (some (val (v24 x7 x8 x9) == val (v25 x7 x8 x9))) none) none) (some (false))) (some (false))) none) (some (false))) (some (false))) none) (some (false))) (some (false))) none) (some (false))) (some (false))) none) (some (false))) (some (false))) none) (some (false))) none) none) none) none) none) none) none) none) none) none)
def xL3_36_0 (x0 : Int) (x1 : Int) (x2 : (List Int)) (x3 : (List Bool)) (x4 : Int) (x5 : Int) (x6 : Bool) (x7 : Int) (x8 : (List Int)) (x9 : (List (Int × (List Int)))) : Bool → Ex × CS := fun r => (.ret, { sl := [(14, .v (.sc (.bool (r))))], lo := [], h := [], n0 := 0 })
theorem bL3_36_0 (k : Nat) (cX : Ex → CS → Option (Ex × CS)) (x0 : Int) (x1 : Int) (x2 : (List Int)) (x3 : (List Bool)) (x4 : Int) (x5 : Int) (x6 : Bool) (x7 : Int) (x8 : (List Int)) (x9 : (List (Int × (List Int)))) : pieceBody Try.prog (mkTn base o18 t18 3) (TM.evF Try.prog (mkTn base o18 t18) dOk (k + 40)) dOk (k + 40) (codeAt Try.prog (tn0 3) 3 36) 0 36 { sl := [(1, .v (.sc (.int .i64 (x0)))), (2, .v (.sc (.int .i64 (x1)))), (3, .v (.sc (.d 5 (.int .u8) (x2)))), (4, .v (.sc (.d 4 .bool (x3)))), (5, .v (.sc (.int .i64 (x4)))), (6, .v (.sc (.int .i64 (x5)))), (7, .l 7 0), (15, .v (.sc (.bool (x6))))], lo := [(7, [.int .i64 (x7), .d 5 (.int .u8) (x8), .d 44 (.pair (.int .i64) (.list 5 (.int .u8))) (x9)])], h := [], n0 := 0 } cX = (cond (ok (v12 x7 x8 x9 x0 x2)) (cond (ok (v13 x7 x8 x9 x0 x2)) (cond (ok (v14 x7 x8 x9)) (cond (ok (v15 x7 x8 x9)) (cond (ok (v16 x7 x8 x9 x3 x4 x5)) (cond (ok (v17 x7 x8 x9 x3 x4 x5)) (cond (ok (v18 x7 x8 x9 x0)) (cond (ok (v19 x7 x8 x9 x0)) (cond (ok (v20 x0 x1)) (cond (ok (v21 x0 x1)) (cond (x6) (cond (ok (v22 (Prod.fst (val (v12 x7 x8 x9 x0 x2))) (Prod.fst (Prod.snd (val (v12 x7 x8 x9 x0 x2)))) (Prod.fst (Prod.snd (Prod.snd (val (v12 x7 x8 x9 x0 x2))))) (Prod.fst (val (v13 x7 x8 x9 x0 x2))) (Prod.fst (Prod.snd (val (v13 x7 x8 x9 x0 x2)))) (Prod.fst (Prod.snd (Prod.snd (val (v13 x7 x8 x9 x0 x2))))))) (cond (val (v22 (Prod.fst (val (v12 x7 x8 x9 x0 x2))) (Prod.fst (Prod.snd (val (v12 x7 x8 x9 x0 x2)))) (Prod.fst (Prod.snd (Prod.snd (val (v12 x7 x8 x9 x0 x2))))) (Prod.fst (val (v13 x7 x8 x9 x0 x2))) (Prod.fst (Prod.snd (val (v13 x7 x8 x9 x0 x2)))) (Prod.fst (Prod.snd (Prod.snd (val (v13 x7 x8 x9 x0 x2))))))) (cond (Prod.snd (Prod.snd (Prod.snd (val (v12 x7 x8 x9 x0 x2)))) == Prod.snd (Prod.snd (Prod.snd (val (v13 x7 x8 x9 x0 x2))))) (cond (ok (v22 (Prod.fst (val (v14 x7 x8 x9))) (Prod.fst (Prod.snd (val (v14 x7 x8 x9)))) (Prod.fst (Prod.snd (Prod.snd (val (v14 x7 x8 x9))))) (Prod.fst (val (v15 x7 x8 x9))) (Prod.fst (Prod.snd (val (v15 x7 x8 x9)))) (Prod.fst (Prod.snd (Prod.snd (val (v15 x7 x8 x9))))))) (cond (val (v22 (Prod.fst (val (v14 x7 x8 x9))) (Prod.fst (Prod.snd (val (v14 x7 x8 x9)))) (Prod.fst (Prod.snd (Prod.snd (val (v14 x7 x8 x9))))) (Prod.fst (val (v15 x7 x8 x9))) (Prod.fst (Prod.snd (val (v15 x7 x8 x9)))) (Prod.fst (Prod.snd (Prod.snd (val (v15 x7 x8 x9))))))) (cond (Prod.snd (Prod.snd (Prod.snd (val (v14 x7 x8 x9)))) == Prod.snd (Prod.snd (Prod.snd (val (v15 x7 x8 x9))))) (cond (ok (v22 (Prod.fst (val (v16 x7 x8 x9 x3 x4 x5))) (Prod.fst (Prod.snd (val (v16 x7 x8 x9 x3 x4 x5)))) (Prod.fst (Prod.snd (Prod.snd (val (v16 x7 x8 x9 x3 x4 x5))))) (Prod.fst (val (v17 x7 x8 x9 x3 x4 x5))) (Prod.fst (Prod.snd (val (v17 x7 x8 x9 x3 x4 x5)))) (Prod.fst (Prod.snd (Prod.snd (val (v17 x7 x8 x9 x3 x4 x5))))))) (cond (val (v22 (Prod.fst (val (v16 x7 x8 x9 x3 x4 x5))) (Prod.fst (Prod.snd (val (v16 x7 x8 x9 x3 x4 x5)))) (Prod.fst (Prod.snd (Prod.snd (val (v16 x7 x8 x9 x3 x4 x5))))) (Prod.fst (val (v17 x7 x8 x9 x3 x4 x5))) (Prod.fst (Prod.snd (val (v17 x7 x8 x9 x3 x4 x5)))) (Prod.fst (Prod.snd (Prod.snd (val (v17 x7 x8 x9 x3 x4 x5))))))) (cond (Prod.snd (Prod.snd (Prod.snd (val (v16 x7 x8 x9 x3 x4 x5)))) == Prod.snd (Prod.snd (Prod.snd (val (v17 x7 x8 x9 x3 x4 x5))))) (cond (ok (v23 (Prod.fst (val (v18 x7 x8 x9 x0))) (Prod.fst (val (v19 x7 x8 x9 x0))))) (cond (val (v23 (Prod.fst (val (v18 x7 x8 x9 x0))) (Prod.fst (val (v19 x7 x8 x9 x0))))) (cond (Prod.snd (val (v18 x7 x8 x9 x0)) == Prod.snd (val (v19 x7 x8 x9 x0))) (cond (ok (v22 (Prod.fst (val (v20 x0 x1))) (Prod.fst (Prod.snd (val (v20 x0 x1)))) (Prod.fst (Prod.snd (Prod.snd (val (v20 x0 x1))))) (Prod.fst (val (v21 x0 x1))) (Prod.fst (Prod.snd (val (v21 x0 x1)))) (Prod.fst (Prod.snd (Prod.snd (val (v21 x0 x1))))))) (cond (val (v22 (Prod.fst (val (v20 x0 x1))) (Prod.fst (Prod.snd (val (v20 x0 x1)))) (Prod.fst (Prod.snd (Prod.snd (val (v20 x0 x1))))) (Prod.fst (val (v21 x0 x1))) (Prod.fst (Prod.snd (val (v21 x0 x1)))) (Prod.fst (Prod.snd (Prod.snd (val (v21 x0 x1))))))) (cond (Prod.snd (Prod.snd (Prod.snd (val (v20 x0 x1)))) == Prod.snd (Prod.snd (Prod.snd (val (v21 x0 x1))))) (cond (ok (v24 x7 x8 x9)) (cond (ok (v25 x7 x8 x9)) (cX .ret { sl := [(14, .v (.sc (.bool (val (v24 x7 x8 x9) == val (v25 x7 x8 x9)))))], lo := [], h := [], n0 := 0 }) none) none) (cX .ret { sl := [(14, .v (.sc (.bool (false))))], lo := [], h := [], n0 := 0 })) (cX .ret { sl := [(14, .v (.sc (.bool (false))))], lo := [], h := [], n0 := 0 })) none) (cX .ret { sl := [(14, .v (.sc (.bool (false))))], lo := [], h := [], n0 := 0 })) (cX .ret { sl := [(14, .v (.sc (.bool (false))))], lo := [], h := [], n0 := 0 })) none) (cX .ret { sl := [(14, .v (.sc (.bool (false))))], lo := [], h := [], n0 := 0 })) (cX .ret { sl := [(14, .v (.sc (.bool (false))))], lo := [], h := [], n0 := 0 })) none) (cX .ret { sl := [(14, .v (.sc (.bool (false))))], lo := [], h := [], n0 := 0 })) (cX .ret { sl := [(14, .v (.sc (.bool (false))))], lo := [], h := [], n0 := 0 })) none) (cX .ret { sl := [(14, .v (.sc (.bool (false))))], lo := [], h := [], n0 := 0 })) (cX .ret { sl := [(14, .v (.sc (.bool (false))))], lo := [], h := [], n0 := 0 })) none) (cX .ret { sl := [(14, .v (.sc (.bool (false))))], lo := [], h := [], n0 := 0 })) none) none) none) none) none) none) none) none) none) none) := by kernel_rfl
theorem lL3_36_0 (k : Nat) (x0 : Int) (x1 : Int) (x2 : (List Int)) (x3 : (List Bool)) (x4 : Int) (x5 : Int) (x6 : Bool) (x7 : Int) (x8 : (List Int)) (x9 : (List (Int × (List Int)))) (r : Bool) : L3_36_0 x0 x1 x2 x3 x4 x5 x6 x7 x8 x9 = some r → pieceBody Try.prog (mkTn base o18 t18 3) (TM.evF Try.prog (mkTn base o18 t18) dOk (k + 40)) dOk (k + 40) (codeAt Try.prog (tn0 3) 3 36) 0 36 { sl := [(1, .v (.sc (.int .i64 (x0)))), (2, .v (.sc (.int .i64 (x1)))), (3, .v (.sc (.d 5 (.int .u8) (x2)))), (4, .v (.sc (.d 4 .bool (x3)))), (5, .v (.sc (.int .i64 (x4)))), (6, .v (.sc (.int .i64 (x5)))), (7, .l 7 0), (15, .v (.sc (.bool (x6))))], lo := [(7, [.int .i64 (x7), .d 5 (.int .u8) (x8), .d 44 (.pair (.int .i64) (.list 5 (.int .u8))) (x9)])], h := [], n0 := 0 } (fun e s => some (e, s)) = some (xL3_36_0 x0 x1 x2 x3 x4 x5 x6 x7 x8 x9 r) := by
  rw [bL3_36_0]
  unfold L3_36_0
  cases (ok (v12 x7 x8 x9 x0 x2)) with
  | true =>
    cases (ok (v13 x7 x8 x9 x0 x2)) with
    | true =>
      cases (ok (v14 x7 x8 x9)) with
      | true =>
        cases (ok (v15 x7 x8 x9)) with
        | true =>
          cases (ok (v16 x7 x8 x9 x3 x4 x5)) with
          | true =>
            cases (ok (v17 x7 x8 x9 x3 x4 x5)) with
            | true =>
              cases (ok (v18 x7 x8 x9 x0)) with
              | true =>
                cases (ok (v19 x7 x8 x9 x0)) with
                | true =>
                  cases (ok (v20 x0 x1)) with
                  | true =>
                    cases (ok (v21 x0 x1)) with
                    | true =>
                      cases x6 with
                      | true =>
                        cases (ok (v22 (Prod.fst (val (v12 x7 x8 x9 x0 x2))) (Prod.fst (Prod.snd (val (v12 x7 x8 x9 x0 x2)))) (Prod.fst (Prod.snd (Prod.snd (val (v12 x7 x8 x9 x0 x2))))) (Prod.fst (val (v13 x7 x8 x9 x0 x2))) (Prod.fst (Prod.snd (val (v13 x7 x8 x9 x0 x2)))) (Prod.fst (Prod.snd (Prod.snd (val (v13 x7 x8 x9 x0 x2))))))) with
                        | true =>
                          cases (val (v22 (Prod.fst (val (v12 x7 x8 x9 x0 x2))) (Prod.fst (Prod.snd (val (v12 x7 x8 x9 x0 x2)))) (Prod.fst (Prod.snd (Prod.snd (val (v12 x7 x8 x9 x0 x2))))) (Prod.fst (val (v13 x7 x8 x9 x0 x2))) (Prod.fst (Prod.snd (val (v13 x7 x8 x9 x0 x2)))) (Prod.fst (Prod.snd (Prod.snd (val (v13 x7 x8 x9 x0 x2))))))) with
                          | true =>
                            cases (Prod.snd (Prod.snd (Prod.snd (val (v12 x7 x8 x9 x0 x2)))) == Prod.snd (Prod.snd (Prod.snd (val (v13 x7 x8 x9 x0 x2))))) with
                            | true =>
                              cases (ok (v22 (Prod.fst (val (v14 x7 x8 x9))) (Prod.fst (Prod.snd (val (v14 x7 x8 x9)))) (Prod.fst (Prod.snd (Prod.snd (val (v14 x7 x8 x9))))) (Prod.fst (val (v15 x7 x8 x9))) (Prod.fst (Prod.snd (val (v15 x7 x8 x9)))) (Prod.fst (Prod.snd (Prod.snd (val (v15 x7 x8 x9))))))) with
                              | true =>
                                cases (val (v22 (Prod.fst (val (v14 x7 x8 x9))) (Prod.fst (Prod.snd (val (v14 x7 x8 x9)))) (Prod.fst (Prod.snd (Prod.snd (val (v14 x7 x8 x9))))) (Prod.fst (val (v15 x7 x8 x9))) (Prod.fst (Prod.snd (val (v15 x7 x8 x9)))) (Prod.fst (Prod.snd (Prod.snd (val (v15 x7 x8 x9))))))) with
                                | true =>
                                  cases (Prod.snd (Prod.snd (Prod.snd (val (v14 x7 x8 x9)))) == Prod.snd (Prod.snd (Prod.snd (val (v15 x7 x8 x9))))) with
                                  | true =>
                                    cases (ok (v22 (Prod.fst (val (v16 x7 x8 x9 x3 x4 x5))) (Prod.fst (Prod.snd (val (v16 x7 x8 x9 x3 x4 x5)))) (Prod.fst (Prod.snd (Prod.snd (val (v16 x7 x8 x9 x3 x4 x5))))) (Prod.fst (val (v17 x7 x8 x9 x3 x4 x5))) (Prod.fst (Prod.snd (val (v17 x7 x8 x9 x3 x4 x5)))) (Prod.fst (Prod.snd (Prod.snd (val (v17 x7 x8 x9 x3 x4 x5))))))) with
                                    | true =>
                                      cases (val (v22 (Prod.fst (val (v16 x7 x8 x9 x3 x4 x5))) (Prod.fst (Prod.snd (val (v16 x7 x8 x9 x3 x4 x5)))) (Prod.fst (Prod.snd (Prod.snd (val (v16 x7 x8 x9 x3 x4 x5))))) (Prod.fst (val (v17 x7 x8 x9 x3 x4 x5))) (Prod.fst (Prod.snd (val (v17 x7 x8 x9 x3 x4 x5)))) (Prod.fst (Prod.snd (Prod.snd (val (v17 x7 x8 x9 x3 x4 x5))))))) with
                                      | true =>
                                        cases (Prod.snd (Prod.snd (Prod.snd (val (v16 x7 x8 x9 x3 x4 x5)))) == Prod.snd (Prod.snd (Prod.snd (val (v17 x7 x8 x9 x3 x4 x5))))) with
                                        | true =>
                                          cases (ok (v23 (Prod.fst (val (v18 x7 x8 x9 x0))) (Prod.fst (val (v19 x7 x8 x9 x0))))) with
                                          | true =>
                                            cases (val (v23 (Prod.fst (val (v18 x7 x8 x9 x0))) (Prod.fst (val (v19 x7 x8 x9 x0))))) with
                                            | true =>
                                              cases (Prod.snd (val (v18 x7 x8 x9 x0)) == Prod.snd (val (v19 x7 x8 x9 x0))) with
                                              | true =>
                                                cases (ok (v22 (Prod.fst (val (v20 x0 x1))) (Prod.fst (Prod.snd (val (v20 x0 x1)))) (Prod.fst (Prod.snd (Prod.snd (val (v20 x0 x1))))) (Prod.fst (val (v21 x0 x1))) (Prod.fst (Prod.snd (val (v21 x0 x1)))) (Prod.fst (Prod.snd (Prod.snd (val (v21 x0 x1))))))) with
                                                | true =>
                                                  cases (val (v22 (Prod.fst (val (v20 x0 x1))) (Prod.fst (Prod.snd (val (v20 x0 x1)))) (Prod.fst (Prod.snd (Prod.snd (val (v20 x0 x1))))) (Prod.fst (val (v21 x0 x1))) (Prod.fst (Prod.snd (val (v21 x0 x1)))) (Prod.fst (Prod.snd (Prod.snd (val (v21 x0 x1))))))) with
                                                  | true =>
                                                    cases (Prod.snd (Prod.snd (Prod.snd (val (v20 x0 x1)))) == Prod.snd (Prod.snd (Prod.snd (val (v21 x0 x1))))) with
                                                    | true =>
                                                      cases (ok (v24 x7 x8 x9)) with
                                                      | true =>
                                                        cases (ok (v25 x7 x8 x9)) with
                                                        | true =>
                                                          intro h; cases h; rfl
                                                        | false =>
                                                          intro h; cases h
                                                      | false =>
                                                        intro h; cases h
                                                    | false =>
                                                      intro h; cases h; rfl
                                                  | false =>
                                                    intro h; cases h; rfl
                                                | false =>
                                                  intro h; cases h
                                              | false =>
                                                intro h; cases h; rfl
                                            | false =>
                                              intro h; cases h; rfl
                                          | false =>
                                            intro h; cases h
                                        | false =>
                                          intro h; cases h; rfl
                                      | false =>
                                        intro h; cases h; rfl
                                    | false =>
                                      intro h; cases h
                                  | false =>
                                    intro h; cases h; rfl
                                | false =>
                                  intro h; cases h; rfl
                              | false =>
                                intro h; cases h
                            | false =>
                              intro h; cases h; rfl
                          | false =>
                            intro h; cases h; rfl
                        | false =>
                          intro h; cases h
                      | false =>
                        intro h; cases h; rfl
                    | false =>
                      intro h; cases h
                  | false =>
                    intro h; cases h
                | false =>
                  intro h; cases h
              | false =>
                intro h; cases h
            | false =>
              intro h; cases h
          | false =>
            intro h; cases h
        | false =>
          intro h; cases h
      | false =>
        intro h; cases h
    | false =>
      intro h; cases h
  | false =>
    intro h; cases h
def sL3_36_0 : TellS := fun S => match S with
  | { sl := [(1, .v (.sc (.int .i64 (x0)))), (2, .v (.sc (.int .i64 (x1)))), (3, .v (.sc (.d 5 (.int .u8) (x2)))), (4, .v (.sc (.d 4 .bool (x3)))), (5, .v (.sc (.int .i64 (x4)))), (6, .v (.sc (.int .i64 (x5)))), (7, .l 7 0), (15, .v (.sc (.bool (x6))))], lo := [(7, [.int .i64 (x7), .d 5 (.int .u8) (x8), .d 44 (.pair (.int .i64) (.list 5 (.int .u8))) (x9)])], h := [], n0 := 0 } => some [(ok (L3_36_0 x0 x1 x2 x3 x4 x5 x6 x7 x8 x9), .ret, { sl := [(14, .v (.sc (.bool ((val (L3_36_0 x0 x1 x2 x3 x4 x5 x6 x7 x8 x9))))))], lo := [], h := [], n0 := 0 })]
  | _ => none
theorem wL3_36_0 : NewTell Try.prog dOk base o18 t18 ((3, 36), sL3_36_0) := by
  refine ⟨(codeAt Try.prog (tn0 3) 3 36), 0, by kernel_rfl, ?_⟩
  intro S alts e S' h1 h2
  have h1 : sL3_36_0 S = some alts := h1
  unfold sL3_36_0 at h1
  split at h1
  · cases h1
    obtain ⟨hc0, rfl, rfl⟩ := pick_one h2
    exact ⟨0 + 40, (evPiece_code rfl).trans (lL3_36_0 0 _ _ _ _ _ _ _ _ _ _ _ (ok_val hc0))⟩
  · cases h1
def o19 : OrcT := o18
def t19 : TellT := ((3, 36), sL3_36_0) :: t18
abbrev tn19 : FuncId → TAn := mkTn base o19 t19
theorem ok19 : TnOk Try.prog tn19 (mkA base) dOk := by
  have h0 : TnOk Try.prog (mkTn base o18 t18) (mkA base) dOk := ok18
  have h1 := tn_tell h0 h0 (p := ((3, 36), sL3_36_0)) wL3_36_0
  exact h1
end Go.Proofs.Ytchgjjgdgbecmaa
set_option maxRecDepth 1000000
set_option linter.unusedVariables false
set_option maxHeartbeats 4000000
namespace Go.Proofs.Ytchgjjgdgbecmaa
open Go Go.AM Go.TM Go.Proofs
/-- queuelablaw35.DiskMatchesReference -/
def v3 (x0 : Int) (x1 : (List Int)) (x2 : (List (Int × (List Int)))) (x3 : Int) (x4 : Int) (x5 : (List Int)) (x6 : (List Bool)) (x7 : Int) (x8 : Int) : Option Bool := (cond (ok (v11 x0 x1 x2)) (cond (!val (v11 x0 x1 x2)) (some (true)) (cond (decide ((↑(List.length x5) : Int) > (600 : Int))) (some (true)) (cond (decide ((↑(List.length x6) : Int) > (100 : Int))) (some (true)) (cond (ok (L3_36_0 x3 x4 x5 x6 x7 x8 (val v10) x0 x1 x2)) (some (val (L3_36_0 x3 x4 x5 x6 x7 x8 (val v10) x0 x1 x2))) none)))) none)
theorem ev3 (x0 : Int) (x1 : (List Int)) (x2 : (List (Int × (List Int)))) (x3 : Int) (x4 : Int) (x5 : (List Int)) (x6 : (List Bool)) (x7 : Int) (x8 : Int) : fnBody Try.prog (mkTn base o19 t19 3) (TM.evF Try.prog (mkTn base o19 t19) dOk 40) dOk 40 3 [.agg [.int .i64 (x0), .d 5 (.int .u8) (x1), .d 44 (.pair (.int .i64) (.list 5 (.int .u8))) (x2)], .sc (.int .i64 (x3)), .sc (.int .i64 (x4)), .sc (.d 5 (.int .u8) (x5)), .sc (.d 4 .bool (x6)), .sc (.int .i64 (x7)), .sc (.int .i64 (x8))] [] = (v3 x0 x1 x2 x3 x4 x5 x6 x7 x8).bind fun r => some ([.sc (.bool (r))], []) := by
  have h : fnBody Try.prog (mkTn base o19 t19 3) (TM.evF Try.prog (mkTn base o19 t19) dOk 40) dOk 40 3 [.agg [.int .i64 (x0), .d 5 (.int .u8) (x1), .d 44 (.pair (.int .i64) (.list 5 (.int .u8))) (x2)], .sc (.int .i64 (x3)), .sc (.int .i64 (x4)), .sc (.d 5 (.int .u8) (x5)), .sc (.d 4 .bool (x6)), .sc (.int .i64 (x7)), .sc (.int .i64 (x8))] [] = (cond (ok (v11 x0 x1 x2)) (cond (!val (v11 x0 x1 x2)) (some ([.sc (.bool (true))], [])) (cond (decide ((↑(List.length x5) : Int) > (600 : Int))) (some ([.sc (.bool (true))], [])) (cond (decide ((↑(List.length x6) : Int) > (100 : Int))) (some ([.sc (.bool (true))], [])) (cond (ok (L3_36_0 x3 x4 x5 x6 x7 x8 (val v10) x0 x1 x2)) (some ([.sc (.bool (val (L3_36_0 x3 x4 x5 x6 x7 x8 (val v10) x0 x1 x2)))], [])) none)))) none) := by kernel_rfl
  rw [h]
  unfold v3
  cases (ok (v11 x0 x1 x2)) with
  | true =>
    cases (!val (v11 x0 x1 x2)) with
    | true =>
      rfl
    | false =>
      cases (decide ((↑(List.length x5) : Int) > (600 : Int))) with
      | true =>
        rfl
      | false =>
        cases (decide ((↑(List.length x6) : Int) > (100 : Int))) with
        | true =>
          rfl
        | false =>
          cases (ok (L3_36_0 x3 x4 x5 x6 x7 x8 (val v10) x0 x1 x2)) with
          | true =>
            rfl
          | false =>
            rfl
  | false =>
    rfl
def sv3 : OrcS := fun al H => match al, H with
  | [.agg [.int .i64 (x0), .d 5 (.int .u8) (x1), .d 44 (.pair (.int .i64) (.list 5 (.int .u8))) (x2)], .sc (.int .i64 (x3)), .sc (.int .i64 (x4)), .sc (.d 5 (.int .u8) (x5)), .sc (.d 4 .bool (x6)), .sc (.int .i64 (x7)), .sc (.int .i64 (x8))], [] => some (ok (v3 x0 x1 x2 x3 x4 x5 x6 x7 x8), [.sc (.bool ((val (v3 x0 x1 x2 x3 x4 x5 x6 x7 x8))))], [])
  | _, _ => none
theorem wv3 : NewOrc Try.prog dOk base o19 t19 (3, sv3) := by
  intro al H q hq hq1
  have hq : sv3 al H = some q := hq
  unfold sv3 at hq
  split at hq
  · cases hq
    exact ⟨41, (ev3 _ _ _ _ _ _ _ _ _).trans (ok_bind hq1)⟩
  · cases hq
def o20 : OrcT := (3, sv3) :: o19
def t20 : TellT := t19
abbrev tn20 : FuncId → TAn := mkTn base o20 t20
theorem ok20 : TnOk Try.prog tn20 (mkA base) dOk := by
  have h0 : TnOk Try.prog (mkTn base o19 t19) (mkA base) dOk := ok19
  have h1 := tn_orc h0 h0 (p := (3, sv3)) wv3
  exact h1
end Go.Proofs.Ytchgjjgdgbecmaa
