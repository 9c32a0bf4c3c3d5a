/- What some functions and loops come to: printed and checked. Written by a program of ours. -/
import Derived.Test.YtchgjjgdgbecmaaG0
set_option linter.all false
set_option linter.constructorNameAsVariable false
set_option linter.unnecessarySimpa false
set_option linter.unusedSimpArgs false
set_option linter.unusedVariables false
set_option maxRecDepth 1000000
set_option linter.unusedVariables false
set_option maxHeartbeats 4000000
namespace Go.Proofs.Ytchgjjgdgbecmaa
open Go Go.AM Go.TM Go.Proofs
/-- disk.Write -/
def v12 (x0 : Int) (x1 : (List Int)) (x2 : (List (Int × (List Int)))) (x3 : Int) (x4 : (List Int)) : Option (Int × (List Int) × (List (Int × (List Int))) × Int) := (cond (ok (v24 x0 x1 x2)) (cond (!val (v24 x0 x1 x2)) (some ((0 : Int), [], [], (1 : Int))) (cond (ok (v30 x0 x1 x2 x3)) (cond (!val (v30 x0 x1 x2 x3)) (some ((0 : Int), [], [], (1 : Int))) (cond ((↑(List.length x4) : Int) != x0) (some ((0 : Int), [], [], (1 : Int))) (cond (decide ((↑(List.length x2) : Int) ≥ (64 : Int))) (some ((0 : Int), [], [], (10 : Int))) (cond (decide (List.length x1 ≤ nat_lit 2147483648)) (cond (decide (List.length x2 ≤ nat_lit 2147483648)) (cond (decide (List.length x2 + List.length [(x3, x4)] ≤ nat_lit 2147483648)) (cond (ok (L12_8_0 FU (↑(List.length (x2 ++ [(x3, x4)])) : Int) (0 : Int) (0 : Int) x0 (x2 ++ [(x3, x4)]) x1 [] [] [])) (some (x0, x1, val (L12_8_0 FU (↑(List.length (x2 ++ [(x3, x4)])) : Int) (0 : Int) (0 : Int) x0 (x2 ++ [(x3, x4)]) x1 [] [] []), (0 : Int))) none) none) none) none)))) none)) none)
theorem ev12 (x0 : Int) (x1 : (List Int)) (x2 : (List (Int × (List Int)))) (x3 : Int) (x4 : (List Int)) : fnBody Try.prog (mkTn base o12 t12 12) (TM.evF Try.prog (mkTn base o12 t12) dOk 40) dOk 40 12 [.agg [.int .i64 (x0), .d 5 (.int .u8) (x1), .d 44 (.pair (.int .i64) (.list 5 (.int .u8))) (x2)], .sc (.int .i64 (x3)), .sc (.d 5 (.int .u8) (x4))] [] = (v12 x0 x1 x2 x3 x4).bind fun r => some ([.agg [.int .i64 (r.1), .d 5 (.int .u8) (r.2.1), .d 44 (.pair (.int .i64) (.list 5 (.int .u8))) (r.2.2.1)], .sc (.int .i64 (r.2.2.2))], []) := by
  have h : fnBody Try.prog (mkTn base o12 t12 12) (TM.evF Try.prog (mkTn base o12 t12) dOk 40) dOk 40 12 [.agg [.int .i64 (x0), .d 5 (.int .u8) (x1), .d 44 (.pair (.int .i64) (.list 5 (.int .u8))) (x2)], .sc (.int .i64 (x3)), .sc (.d 5 (.int .u8) (x4))] [] = (cond (ok (v24 x0 x1 x2)) (cond (!val (v24 x0 x1 x2)) (some ([.agg [.int .i64 ((0 : Int)), .d 5 (.int .u8) ([]), .d 44 (.pair (.int .i64) (.list 5 (.int .u8))) ([])], .sc (.int .i64 ((1 : Int)))], [])) (cond (ok (v30 x0 x1 x2 x3)) (cond (!val (v30 x0 x1 x2 x3)) (some ([.agg [.int .i64 ((0 : Int)), .d 5 (.int .u8) ([]), .d 44 (.pair (.int .i64) (.list 5 (.int .u8))) ([])], .sc (.int .i64 ((1 : Int)))], [])) (cond ((↑(List.length x4) : Int) != x0) (some ([.agg [.int .i64 ((0 : Int)), .d 5 (.int .u8) ([]), .d 44 (.pair (.int .i64) (.list 5 (.int .u8))) ([])], .sc (.int .i64 ((1 : Int)))], [])) (cond (decide ((↑(List.length x2) : Int) ≥ (64 : Int))) (some ([.agg [.int .i64 ((0 : Int)), .d 5 (.int .u8) ([]), .d 44 (.pair (.int .i64) (.list 5 (.int .u8))) ([])], .sc (.int .i64 ((10 : Int)))], [])) (cond (decide (List.length x1 ≤ nat_lit 2147483648)) (cond (decide (List.length x2 ≤ nat_lit 2147483648)) (cond (decide (List.length x2 + List.length [(x3, x4)] ≤ nat_lit 2147483648)) (cond (ok (L12_8_0 FU (↑(List.length (x2 ++ [(x3, x4)])) : Int) (0 : Int) (0 : Int) x0 (x2 ++ [(x3, x4)]) x1 [] [] [])) (some ([.agg [.int .i64 (x0), .d 5 (.int .u8) (x1), .d 44 (.pair (.int .i64) (.list 5 (.int .u8))) (val (L12_8_0 FU (↑(List.length (x2 ++ [(x3, x4)])) : Int) (0 : Int) (0 : Int) x0 (x2 ++ [(x3, x4)]) x1 [] [] []))], .sc (.int .i64 ((0 : Int)))], [])) none) none) none) none)))) none)) none) := by kernel_rfl
  rw [h]
  unfold v12
  cases (ok (v24 x0 x1 x2)) with
  | true =>
    cases (!val (v24 x0 x1 x2)) with
    | true =>
      rfl
    | false =>
      cases (ok (v30 x0 x1 x2 x3)) with
      | true =>
        cases (!val (v30 x0 x1 x2 x3)) with
        | true =>
          rfl
        | false =>
          cases ((↑(List.length x4) : Int) != x0) with
          | true =>
            rfl
          | false =>
            cases (decide ((↑(List.length x2) : Int) ≥ (64 : Int))) with
            | true =>
              rfl
            | false =>
              cases (decide (List.length x1 ≤ nat_lit 2147483648)) with
              | true =>
                cases (decide (List.length x2 ≤ nat_lit 2147483648)) with
                | true =>
                  cases (decide (List.length x2 + List.length [(x3, x4)] ≤ nat_lit 2147483648)) with
                  | true =>
                    cases (ok (L12_8_0 FU (↑(List.length (x2 ++ [(x3, x4)])) : Int) (0 : Int) (0 : Int) x0 (x2 ++ [(x3, x4)]) x1 [] [] [])) with
                    | true =>
                      rfl
                    | false =>
                      rfl
                  | false =>
                    rfl
                | false =>
                  rfl
              | false =>
                rfl
      | false =>
        rfl
  | false =>
    rfl
def sv12 : OrcS := fun al H => match al, H with
  | [.agg [.int .i64 (x0), .d 5 (.int .u8) (x1), .d 44 (.pair (.int .i64) (.list 5 (.int .u8))) (x2)], .sc (.int .i64 (x3)), .sc (.d 5 (.int .u8) (x4))], [] => some (ok (v12 x0 x1 x2 x3 x4), [.agg [.int .i64 ((val (v12 x0 x1 x2 x3 x4)).1), .d 5 (.int .u8) ((val (v12 x0 x1 x2 x3 x4)).2.1), .d 44 (.pair (.int .i64) (.list 5 (.int .u8))) ((val (v12 x0 x1 x2 x3 x4)).2.2.1)], .sc (.int .i64 ((val (v12 x0 x1 x2 x3 x4)).2.2.2))], [])
  | _, _ => none
theorem wv12 : NewOrc Try.prog dOk base o12 t12 (12, sv12) := by
  intro al H q hq hq1
  have hq : sv12 al H = some q := hq
  unfold sv12 at hq
  split at hq
  · cases hq
    exact ⟨41, (ev12 _ _ _ _ _).trans (ok_bind hq1)⟩
  · cases hq
/-- disk.done: the loop 0 -/
def L33_0_0 : Nat → (List (Int × (List Int))) → Int → Int → Int → (List Int) → (List (Int × (List Int))) → (List Int) → Option (List Int)
  | 0, _, _, _, _, _, _, _ => none
  | n + 1, x0, x1, x2, x3, x4, x5, x6 => (cond (decide (x2 < x1)) (cond (decide ((0 : Int) ≤ x2)) (cond (decide (x2 < (↑(List.length x0) : Int))) (cond (decide ((0 : Int) ≤ IntKind.wrap IntKind.i64 (Prod.fst (List.getD x0 (Int.toNat x2) ((0 : Int), [])) * x3))) (cond (decide ((0 : Int) ≤ IntKind.wrap IntKind.i64 (IntKind.wrap IntKind.i64 (Prod.fst (List.getD x0 (Int.toNat x2) ((0 : Int), [])) + (1 : Int)) * x3))) (cond (decide (Int.toNat (IntKind.wrap IntKind.i64 (Prod.fst (List.getD x0 (Int.toNat x2) ((0 : Int), [])) * x3)) ≤ Int.toNat (IntKind.wrap IntKind.i64 (IntKind.wrap IntKind.i64 (Prod.fst (List.getD x0 (Int.toNat x2) ((0 : Int), [])) + (1 : Int)) * x3)))) (cond (decide (Int.toNat (IntKind.wrap IntKind.i64 (IntKind.wrap IntKind.i64 (Prod.fst (List.getD x0 (Int.toNat x2) ((0 : Int), [])) + (1 : Int)) * x3)) ≤ Int.toNat (IntKind.wrap IntKind.i64 (IntKind.wrap IntKind.i64 (Prod.fst (List.getD x0 (Int.toNat x2) ((0 : Int), [])) + (1 : Int)) * x3)))) (cond (decide (Int.toNat (IntKind.wrap IntKind.i64 (IntKind.wrap IntKind.i64 (Prod.fst (List.getD x0 (Int.toNat x2) ((0 : Int), [])) + (1 : Int)) * x3)) ≤ List.length x6)) (cond (decide (Int.toNat (IntKind.wrap IntKind.i64 (Prod.fst (List.getD x0 (Int.toNat x2) ((0 : Int), [])) * x3)) + (Int.toNat (IntKind.wrap IntKind.i64 (IntKind.wrap IntKind.i64 (Prod.fst (List.getD x0 (Int.toNat x2) ((0 : Int), [])) + (1 : Int)) * x3)) - Int.toNat (IntKind.wrap IntKind.i64 (Prod.fst (List.getD x0 (Int.toNat x2) ((0 : Int), [])) * x3))) ≤ List.length x6)) (L33_0_0 n (x0) (x1) (IntKind.wrap IntKind.i64 (x2 + (1 : Int))) (x3) (x4) (x5) (List.take (Int.toNat (IntKind.wrap IntKind.i64 (Prod.fst (List.getD x0 (Int.toNat x2) ((0 : Int), [])) * x3))) x6 ++ List.take (Int.toNat (IntKind.wrap IntKind.i64 (IntKind.wrap IntKind.i64 (Prod.fst (List.getD x0 (Int.toNat x2) ((0 : Int), [])) + (1 : Int)) * x3)) - Int.toNat (IntKind.wrap IntKind.i64 (Prod.fst (List.getD x0 (Int.toNat x2) ((0 : Int), [])) * x3))) (Prod.snd (List.getD x0 (Int.toNat x2) ((0 : Int), []))) ++ List.drop (Int.toNat (IntKind.wrap IntKind.i64 (Prod.fst (List.getD x0 (Int.toNat x2) ((0 : Int), [])) * x3)) + min (Int.toNat (IntKind.wrap IntKind.i64 (IntKind.wrap IntKind.i64 (Prod.fst (List.getD x0 (Int.toNat x2) ((0 : Int), [])) + (1 : Int)) * x3)) - Int.toNat (IntKind.wrap IntKind.i64 (Prod.fst (List.getD x0 (Int.toNat x2) ((0 : Int), [])) * x3))) (List.length (Prod.snd (List.getD x0 (Int.toNat x2) ((0 : Int), []))))) x6)) none) none) none) none) none) none) none) none) (some (x6)))
theorem qL33_0_0 (n : Nat) (x0 : (List (Int × (List Int)))) (x1 : Int) (x2 : Int) (x3 : Int) (x4 : (List Int)) (x5 : (List (Int × (List Int)))) (x6 : (List Int)) : L33_0_0 (n + 1) x0 x1 x2 x3 x4 x5 x6 = (cond (decide (x2 < x1)) (cond (decide ((0 : Int) ≤ x2)) (cond (decide (x2 < (↑(List.length x0) : Int))) (cond (decide ((0 : Int) ≤ IntKind.wrap IntKind.i64 (Prod.fst (List.getD x0 (Int.toNat x2) ((0 : Int), [])) * x3))) (cond (decide ((0 : Int) ≤ IntKind.wrap IntKind.i64 (IntKind.wrap IntKind.i64 (Prod.fst (List.getD x0 (Int.toNat x2) ((0 : Int), [])) + (1 : Int)) * x3))) (cond (decide (Int.toNat (IntKind.wrap IntKind.i64 (Prod.fst (List.getD x0 (Int.toNat x2) ((0 : Int), [])) * x3)) ≤ Int.toNat (IntKind.wrap IntKind.i64 (IntKind.wrap IntKind.i64 (Prod.fst (List.getD x0 (Int.toNat x2) ((0 : Int), [])) + (1 : Int)) * x3)))) (cond (decide (Int.toNat (IntKind.wrap IntKind.i64 (IntKind.wrap IntKind.i64 (Prod.fst (List.getD x0 (Int.toNat x2) ((0 : Int), [])) + (1 : Int)) * x3)) ≤ Int.toNat (IntKind.wrap IntKind.i64 (IntKind.wrap IntKind.i64 (Prod.fst (List.getD x0 (Int.toNat x2) ((0 : Int), [])) + (1 : Int)) * x3)))) (cond (decide (Int.toNat (IntKind.wrap IntKind.i64 (IntKind.wrap IntKind.i64 (Prod.fst (List.getD x0 (Int.toNat x2) ((0 : Int), [])) + (1 : Int)) * x3)) ≤ List.length x6)) (cond (decide (Int.toNat (IntKind.wrap IntKind.i64 (Prod.fst (List.getD x0 (Int.toNat x2) ((0 : Int), [])) * x3)) + (Int.toNat (IntKind.wrap IntKind.i64 (IntKind.wrap IntKind.i64 (Prod.fst (List.getD x0 (Int.toNat x2) ((0 : Int), [])) + (1 : Int)) * x3)) - Int.toNat (IntKind.wrap IntKind.i64 (Prod.fst (List.getD x0 (Int.toNat x2) ((0 : Int), [])) * x3))) ≤ List.length x6)) (L33_0_0 n (x0) (x1) (IntKind.wrap IntKind.i64 (x2 + (1 : Int))) (x3) (x4) (x5) (List.take (Int.toNat (IntKind.wrap IntKind.i64 (Prod.fst (List.getD x0 (Int.toNat x2) ((0 : Int), [])) * x3))) x6 ++ List.take (Int.toNat (IntKind.wrap IntKind.i64 (IntKind.wrap IntKind.i64 (Prod.fst (List.getD x0 (Int.toNat x2) ((0 : Int), [])) + (1 : Int)) * x3)) - Int.toNat (IntKind.wrap IntKind.i64 (Prod.fst (List.getD x0 (Int.toNat x2) ((0 : Int), [])) * x3))) (Prod.snd (List.getD x0 (Int.toNat x2) ((0 : Int), []))) ++ List.drop (Int.toNat (IntKind.wrap IntKind.i64 (Prod.fst (List.getD x0 (Int.toNat x2) ((0 : Int), [])) * x3)) + min (Int.toNat (IntKind.wrap IntKind.i64 (IntKind.wrap IntKind.i64 (Prod.fst (List.getD x0 (Int.toNat x2) ((0 : Int), [])) + (1 : Int)) * x3)) - Int.toNat (IntKind.wrap IntKind.i64 (Prod.fst (List.getD x0 (Int.toNat x2) ((0 : Int), [])) * x3))) (List.length (Prod.snd (List.getD x0 (Int.toNat x2) ((0 : Int), []))))) x6)) none) none) none) none) none) none) none) none) (some (x6))) := by rfl
def xL33_0_0 (x0 : (List (Int × (List Int)))) (x1 : Int) (x2 : Int) (x3 : Int) (x4 : (List Int)) (x5 : (List (Int × (List Int)))) (x6 : (List Int)) : (List Int) → Ex × CS := fun r => ((.exit 0), { sl := [(2, .l 2 0), (5, .v (.sc (.g 0)))], lo := [], h := [.row 5 (.int .u8) (r)], n0 := 0 })
theorem bL33_0_0 (k : Nat) (cN : CS → Option (Ex × CS)) (cX : Ex → CS → Option (Ex × CS)) (x0 : (List (Int × (List Int)))) (x1 : Int) (x2 : Int) (x3 : Int) (x4 : (List Int)) (x5 : (List (Int × (List Int)))) (x6 : (List Int)) : loopBody Try.prog (mkTn base o12 t12 33) (TM.evF Try.prog (mkTn base o12 t12) dOk (k + 40)) dOk (k + 40) (codeAt Try.prog (tn0 33) 33 0) 0 0 { sl := [(2, .l 2 0), (5, .v (.sc (.g 0))), (18, .v (.sc (.d 44 (.pair (.int .i64) (.list 5 (.int .u8))) (x0)))), (19, .v (.sc (.int .i64 (x1)))), (20, .v (.sc (.int .i64 (x2))))], lo := [(2, [.int .i64 (x3), .d 5 (.int .u8) (x4), .d 44 (.pair (.int .i64) (.list 5 (.int .u8))) (x5)])], h := [.row 5 (.int .u8) (x6)], n0 := 0 } cN cX = (cond (decide (x2 < x1)) (cond (decide ((0 : Int) ≤ x2)) (cond (decide (x2 < (↑(List.length x0) : Int))) (cond (decide ((0 : Int) ≤ IntKind.wrap IntKind.i64 (Prod.fst (List.getD x0 (Int.toNat x2) ((0 : Int), [])) * x3))) (cond (decide ((0 : Int) ≤ IntKind.wrap IntKind.i64 (IntKind.wrap IntKind.i64 (Prod.fst (List.getD x0 (Int.toNat x2) ((0 : Int), [])) + (1 : Int)) * x3))) (cond (decide ((0 : Int) ≤ IntKind.wrap IntKind.i64 (IntKind.wrap IntKind.i64 (Prod.fst (List.getD x0 (Int.toNat x2) ((0 : Int), [])) + (1 : Int)) * x3))) (cond (decide (Int.toNat (IntKind.wrap IntKind.i64 (Prod.fst (List.getD x0 (Int.toNat x2) ((0 : Int), [])) * x3)) ≤ Int.toNat (IntKind.wrap IntKind.i64 (IntKind.wrap IntKind.i64 (Prod.fst (List.getD x0 (Int.toNat x2) ((0 : Int), [])) + (1 : Int)) * x3)))) (cond (decide (Int.toNat (IntKind.wrap IntKind.i64 (IntKind.wrap IntKind.i64 (Prod.fst (List.getD x0 (Int.toNat x2) ((0 : Int), [])) + (1 : Int)) * x3)) ≤ Int.toNat (IntKind.wrap IntKind.i64 (IntKind.wrap IntKind.i64 (Prod.fst (List.getD x0 (Int.toNat x2) ((0 : Int), [])) + (1 : Int)) * x3)))) (cond (decide (Int.toNat (IntKind.wrap IntKind.i64 (IntKind.wrap IntKind.i64 (Prod.fst (List.getD x0 (Int.toNat x2) ((0 : Int), [])) + (1 : Int)) * x3)) ≤ List.length x6)) (cond (decide (Int.toNat (IntKind.wrap IntKind.i64 (Prod.fst (List.getD x0 (Int.toNat x2) ((0 : Int), [])) * x3)) + (Int.toNat (IntKind.wrap IntKind.i64 (IntKind.wrap IntKind.i64 (Prod.fst (List.getD x0 (Int.toNat x2) ((0 : Int), [])) + (1 : Int)) * x3)) - Int.toNat (IntKind.wrap IntKind.i64 (Prod.fst (List.getD x0 (Int.toNat x2) ((0 : Int), [])) * x3))) ≤ List.length x6)) (cN { sl := [(2, .l 2 0), (5, .v (.sc (.g 0))), (18, .v (.sc (.d 44 (.pair (.int .i64) (.list 5 (.int .u8))) (x0)))), (19, .v (.sc (.int .i64 (x1)))), (20, .v (.sc (.int .i64 (IntKind.wrap IntKind.i64 (x2 + (1 : Int))))))], lo := [(2, [.int .i64 (x3), .d 5 (.int .u8) (x4), .d 44 (.pair (.int .i64) (.list 5 (.int .u8))) (x5)])], h := [.row 5 (.int .u8) (List.take (Int.toNat (IntKind.wrap IntKind.i64 (Prod.fst (List.getD x0 (Int.toNat x2) ((0 : Int), [])) * x3))) x6 ++ List.take (Int.toNat (IntKind.wrap IntKind.i64 (IntKind.wrap IntKind.i64 (Prod.fst (List.getD x0 (Int.toNat x2) ((0 : Int), [])) + (1 : Int)) * x3)) - Int.toNat (IntKind.wrap IntKind.i64 (Prod.fst (List.getD x0 (Int.toNat x2) ((0 : Int), [])) * x3))) (Prod.snd (List.getD x0 (Int.toNat x2) ((0 : Int), []))) ++ List.drop (Int.toNat (IntKind.wrap IntKind.i64 (Prod.fst (List.getD x0 (Int.toNat x2) ((0 : Int), [])) * x3)) + min (Int.toNat (IntKind.wrap IntKind.i64 (IntKind.wrap IntKind.i64 (Prod.fst (List.getD x0 (Int.toNat x2) ((0 : Int), [])) + (1 : Int)) * x3)) - Int.toNat (IntKind.wrap IntKind.i64 (Prod.fst (List.getD x0 (Int.toNat x2) ((0 : Int), [])) * x3))) (List.length (Prod.snd (List.getD x0 (Int.toNat x2) ((0 : Int), []))))) x6)], n0 := 0 }) none) none) none) none) none) none) none) none) none) (cX (.exit 0) { sl := [(2, .l 2 0), (5, .v (.sc (.g 0)))], lo := [], h := [.row 5 (.int .u8) (x6)], n0 := 0 })) := by kernel_rfl
theorem lL33_0_0 (k m : Nat) : ∀ (n : Nat) (x0 : (List (Int × (List Int)))) (x1 : Int) (x2 : Int) (x3 : Int) (x4 : (List Int)) (x5 : (List (Int × (List Int)))) (x6 : (List Int)) (r : (List Int)), L33_0_0 n x0 x1 x2 x3 x4 x5 x6 = some r → loopE Try.prog (mkTn base o12 t12 33) (TM.evF Try.prog (mkTn base o12 t12) dOk (k + 40)) dOk (k + 40) (codeAt Try.prog (tn0 33) 33 0) 0 0 (n + m) { sl := [(2, .l 2 0), (5, .v (.sc (.g 0))), (18, .v (.sc (.d 44 (.pair (.int .i64) (.list 5 (.int .u8))) (x0)))), (19, .v (.sc (.int .i64 (x1)))), (20, .v (.sc (.int .i64 (x2))))], lo := [(2, [.int .i64 (x3), .d 5 (.int .u8) (x4), .d 44 (.pair (.int .i64) (.list 5 (.int .u8))) (x5)])], h := [.row 5 (.int .u8) (x6)], n0 := 0 } = some (xL33_0_0 x0 x1 x2 x3 x4 x5 x6 r) := by
  intro n
  induction n with
  | zero => intro _ _ _ _ _ _ _ r h; cases h
  | succ n ih =>
    intro x0 x1 x2 x3 x4 x5 x6 r
    rw [show n + 1 + m = n + m + 1 by omega, loop_step, bL33_0_0, qL33_0_0]
    cases (decide (x2 < x1)) with
    | true =>
      cases (decide ((0 : Int) ≤ x2)) with
      | true =>
        cases (decide (x2 < (↑(List.length x0) : Int))) with
        | true =>
          cases (decide ((0 : Int) ≤ IntKind.wrap IntKind.i64 (Prod.fst (List.getD x0 (Int.toNat x2) ((0 : Int), [])) * x3))) with
          | true =>
            cases (decide ((0 : Int) ≤ IntKind.wrap IntKind.i64 (IntKind.wrap IntKind.i64 (Prod.fst (List.getD x0 (Int.toNat x2) ((0 : Int), [])) + (1 : Int)) * x3))) with
            | true =>
              cases (decide (Int.toNat (IntKind.wrap IntKind.i64 (Prod.fst (List.getD x0 (Int.toNat x2) ((0 : Int), [])) * x3)) ≤ Int.toNat (IntKind.wrap IntKind.i64 (IntKind.wrap IntKind.i64 (Prod.fst (List.getD x0 (Int.toNat x2) ((0 : Int), [])) + (1 : Int)) * x3)))) with
              | true =>
                cases (decide (Int.toNat (IntKind.wrap IntKind.i64 (IntKind.wrap IntKind.i64 (Prod.fst (List.getD x0 (Int.toNat x2) ((0 : Int), [])) + (1 : Int)) * x3)) ≤ Int.toNat (IntKind.wrap IntKind.i64 (IntKind.wrap IntKind.i64 (Prod.fst (List.getD x0 (Int.toNat x2) ((0 : Int), [])) + (1 : Int)) * x3)))) with
                | true =>
                  cases (decide (Int.toNat (IntKind.wrap IntKind.i64 (IntKind.wrap IntKind.i64 (Prod.fst (List.getD x0 (Int.toNat x2) ((0 : Int), [])) + (1 : Int)) * x3)) ≤ List.length x6)) with
                  | true =>
                    cases (decide (Int.toNat (IntKind.wrap IntKind.i64 (Prod.fst (List.getD x0 (Int.toNat x2) ((0 : Int), [])) * x3)) + (Int.toNat (IntKind.wrap IntKind.i64 (IntKind.wrap IntKind.i64 (Prod.fst (List.getD x0 (Int.toNat x2) ((0 : Int), [])) + (1 : Int)) * x3)) - Int.toNat (IntKind.wrap IntKind.i64 (Prod.fst (List.getD x0 (Int.toNat x2) ((0 : Int), [])) * x3))) ≤ List.length x6)) with
                    | true =>
                      exact ih _ _ _ _ _ _ _ r
                    | false =>
                      intro h; cases h
                  | false =>
                    intro h; cases h
                | false =>
                  intro h; cases h
              | false =>
                intro h; cases h
            | false =>
              intro h; cases h
          | false =>
            intro h; cases h
        | false =>
          intro h; cases h
      | false =>
        intro h; cases h
    | false =>
      intro h; cases h; rfl
def sL33_0_0 : TellS := fun S => match S with
  | { sl := [(2, .l 2 0), (5, .v (.sc (.g 0))), (18, .v (.sc (.d 44 (.pair (.int .i64) (.list 5 (.int .u8))) (x0)))), (19, .v (.sc (.int .i64 (x1)))), (20, .v (.sc (.int .i64 (x2))))], lo := [(2, [.int .i64 (x3), .d 5 (.int .u8) (x4), .d 44 (.pair (.int .i64) (.list 5 (.int .u8))) (x5)])], h := [.row 5 (.int .u8) (x6)], n0 := 0 } => some [(ok (L33_0_0 FU x0 x1 x2 x3 x4 x5 x6), (.exit 0), { sl := [(2, .l 2 0), (5, .v (.sc (.g 0)))], lo := [], h := [.row 5 (.int .u8) ((val (L33_0_0 FU x0 x1 x2 x3 x4 x5 x6)))], n0 := 0 })]
  | _ => none
theorem wL33_0_0 : NewTell Try.prog dOk base o12 t12 ((33, 0), sL33_0_0) := by
  refine ⟨.loop (codeAt Try.prog (tn0 33) 33 0), 0, by kernel_rfl, ?_⟩
  intro S alts e S' h1 h2
  have h1 : sL33_0_0 S = some alts := h1
  unfold sL33_0_0 at h1
  split at h1
  · cases h1
    obtain ⟨hc0, rfl, rfl⟩ := pick_one h2
    exact ⟨FU + 40, (evPiece_loop rfl).trans (lL33_0_0 FU 40 FU _ _ _ _ _ _ _ _ (ok_val hc0))⟩
  · cases h1
def o13 : OrcT := (12, sv12) :: o12
def t13 : TellT := ((33, 0), sL33_0_0) :: t12
abbrev tn13 : FuncId → TAn := mkTn base o13 t13
theorem ok13 : TnOk Try.prog tn13 (mkA base) dOk := by
  have h0 : TnOk Try.prog (mkTn base o12 t12) (mkA base) dOk := ok12
  have h1 := tn_orc h0 h0 (p := (12, sv12)) wv12
  have h2 := tn_tell h0 h1 (p := ((33, 0), sL33_0_0)) wL33_0_0
  exact h2
end Go.Proofs.Ytchgjjgdgbecmaa
set_option maxRecDepth 1000000
set_option linter.unusedVariables false
set_option maxHeartbeats 4000000
namespace Go.Proofs.Ytchgjjgdgbecmaa
open Go Go.AM Go.TM Go.Proofs
/-- disk.done -/
def v33 (x0 : Int) (x1 : (List Int)) (x2 : (List (Int × (List Int)))) (x3 : (List (Int × (List Int)))) : Option (List Int) := (cond (decide ((↑(List.length x1) : Int) ≤ (↑(List.length x1) : Int))) (cond (decide ((↑(List.length x1) : Int) ≤ (↑(nat_lit 2147483648) : Int))) (cond (ok (L33_0_0 FU x3 (↑(List.length x3) : Int) (0 : Int) x0 x1 x2 (List.take (List.length (List.replicate (Int.toNat (↑(List.length x1) : Int)) (0 : Int))) x1 ++ List.drop (List.length x1) (List.replicate (Int.toNat (↑(List.length x1) : Int)) (0 : Int))))) (some (val (L33_0_0 FU x3 (↑(List.length x3) : Int) (0 : Int) x0 x1 x2 (List.take (List.length (List.replicate (Int.toNat (↑(List.length x1) : Int)) (0 : Int))) x1 ++ List.drop (List.length x1) (List.replicate (Int.toNat (↑(List.length x1) : Int)) (0 : Int)))))) none) none) none)
theorem ev33 (x0 : Int) (x1 : (List Int)) (x2 : (List (Int × (List Int)))) (x3 : (List (Int × (List Int)))) : fnBody Try.prog (mkTn base o13 t13 33) (TM.evF Try.prog (mkTn base o13 t13) dOk 40) dOk 40 33 [.agg [.int .i64 (x0), .d 5 (.int .u8) (x1), .d 44 (.pair (.int .i64) (.list 5 (.int .u8))) (x2)], .sc (.d 44 (.pair (.int .i64) (.list 5 (.int .u8))) (x3))] [] = (v33 x0 x1 x2 x3).bind fun r => some ([.sc (.d 5 (.int .u8) (r))], []) := by
  have h : fnBody Try.prog (mkTn base o13 t13 33) (TM.evF Try.prog (mkTn base o13 t13) dOk 40) dOk 40 33 [.agg [.int .i64 (x0), .d 5 (.int .u8) (x1), .d 44 (.pair (.int .i64) (.list 5 (.int .u8))) (x2)], .sc (.d 44 (.pair (.int .i64) (.list 5 (.int .u8))) (x3))] [] = (cond (decide ((↑(List.length x1) : Int) ≤ (↑(List.length x1) : Int))) (cond (decide ((↑(List.length x1) : Int) ≤ (↑(nat_lit 2147483648) : Int))) (cond (ok (L33_0_0 FU x3 (↑(List.length x3) : Int) (0 : Int) x0 x1 x2 (List.take (List.length (List.replicate (Int.toNat (↑(List.length x1) : Int)) (0 : Int))) x1 ++ List.drop (List.length x1) (List.replicate (Int.toNat (↑(List.length x1) : Int)) (0 : Int))))) (some ([.sc (.d 5 (.int .u8) (val (L33_0_0 FU x3 (↑(List.length x3) : Int) (0 : Int) x0 x1 x2 (List.take (List.length (List.replicate (Int.toNat (↑(List.length x1) : Int)) (0 : Int))) x1 ++ List.drop (List.length x1) (List.replicate (Int.toNat (↑(List.length x1) : Int)) (0 : Int))))))], [])) none) none) none) := by kernel_rfl
  rw [h]
  unfold v33
  cases (decide ((↑(List.length x1) : Int) ≤ (↑(List.length x1) : Int))) with
  | true =>
    cases (decide ((↑(List.length x1) : Int) ≤ (↑(nat_lit 2147483648) : Int))) with
    | true =>
      cases (ok (L33_0_0 FU x3 (↑(List.length x3) : Int) (0 : Int) x0 x1 x2 (List.take (List.length (List.replicate (Int.toNat (↑(List.length x1) : Int)) (0 : Int))) x1 ++ List.drop (List.length x1) (List.replicate (Int.toNat (↑(List.length x1) : Int)) (0 : Int))))) with
      | true =>
        rfl
      | false =>
        rfl
    | false =>
      rfl
  | false =>
    rfl
def sv33 : OrcS := fun al H => match al, H with
  | [.agg [.int .i64 (x0), .d 5 (.int .u8) (x1), .d 44 (.pair (.int .i64) (.list 5 (.int .u8))) (x2)], .sc (.d 44 (.pair (.int .i64) (.list 5 (.int .u8))) (x3))], [] => some (ok (v33 x0 x1 x2 x3), [.sc (.d 5 (.int .u8) ((val (v33 x0 x1 x2 x3))))], [])
  | _, _ => none
theorem wv33 : NewOrc Try.prog dOk base o13 t13 (33, sv33) := by
  intro al H q hq hq1
  have hq : sv33 al H = some q := hq
  unfold sv33 at hq
  split at hq
  · cases hq
    exact ⟨41, (ev33 _ _ _ _).trans (ok_bind hq1)⟩
  · cases hq
def o14 : OrcT := (33, sv33) :: o13
def t14 : TellT := t13
abbrev tn14 : FuncId → TAn := mkTn base o14 t14
theorem ok14 : TnOk Try.prog tn14 (mkA base) dOk := by
  have h0 : TnOk Try.prog (mkTn base o13 t13) (mkA base) dOk := ok13
  have h1 := tn_orc h0 h0 (p := (33, sv33)) wv33
  exact h1
end Go.Proofs.Ytchgjjgdgbecmaa
set_option maxRecDepth 1000000
set_option linter.unusedVariables false
set_option maxHeartbeats 4000000
namespace Go.Proofs.Ytchgjjgdgbecmaa
open Go Go.AM Go.TM Go.Proofs
/-- disk.Sync -/
def v14 (x0 : Int) (x1 : (List Int)) (x2 : (List (Int × (List Int)))) : Option (Int × (List Int) × (List (Int × (List Int))) × Int) := (cond (ok (v24 x0 x1 x2)) (cond (!val (v24 x0 x1 x2)) (some ((0 : Int), [], [], (1 : Int))) (cond (ok (v33 x0 x1 x2 x2)) (some (x0, val (v33 x0 x1 x2 x2), [], (0 : Int))) none)) none)
theorem ev14 (x0 : Int) (x1 : (List Int)) (x2 : (List (Int × (List Int)))) : fnBody Try.prog (mkTn base o14 t14 14) (TM.evF Try.prog (mkTn base o14 t14) dOk 40) dOk 40 14 [.agg [.int .i64 (x0), .d 5 (.int .u8) (x1), .d 44 (.pair (.int .i64) (.list 5 (.int .u8))) (x2)]] [] = (v14 x0 x1 x2).bind fun r => some ([.agg [.int .i64 (r.1), .d 5 (.int .u8) (r.2.1), .d 44 (.pair (.int .i64) (.list 5 (.int .u8))) (r.2.2.1)], .sc (.int .i64 (r.2.2.2))], []) := by
  have h : fnBody Try.prog (mkTn base o14 t14 14) (TM.evF Try.prog (mkTn base o14 t14) dOk 40) dOk 40 14 [.agg [.int .i64 (x0), .d 5 (.int .u8) (x1), .d 44 (.pair (.int .i64) (.list 5 (.int .u8))) (x2)]] [] = (cond (ok (v24 x0 x1 x2)) (cond (!val (v24 x0 x1 x2)) (some ([.agg [.int .i64 ((0 : Int)), .d 5 (.int .u8) ([]), .d 44 (.pair (.int .i64) (.list 5 (.int .u8))) ([])], .sc (.int .i64 ((1 : Int)))], [])) (cond (ok (v33 x0 x1 x2 x2)) (some ([.agg [.int .i64 (x0), .d 5 (.int .u8) (val (v33 x0 x1 x2 x2)), .d 44 (.pair (.int .i64) (.list 5 (.int .u8))) ([])], .sc (.int .i64 ((0 : Int)))], [])) none)) none) := by kernel_rfl
  rw [h]
  unfold v14
  cases (ok (v24 x0 x1 x2)) with
  | true =>
    cases (!val (v24 x0 x1 x2)) with
    | true =>
      rfl
    | false =>
      cases (ok (v33 x0 x1 x2 x2)) with
      | true =>
        rfl
      | false =>
        rfl
  | false =>
    rfl
def sv14 : OrcS := fun al H => match al, H with
  | [.agg [.int .i64 (x0), .d 5 (.int .u8) (x1), .d 44 (.pair (.int .i64) (.list 5 (.int .u8))) (x2)]], [] => some (ok (v14 x0 x1 x2), [.agg [.int .i64 ((val (v14 x0 x1 x2)).1), .d 5 (.int .u8) ((val (v14 x0 x1 x2)).2.1), .d 44 (.pair (.int .i64) (.list 5 (.int .u8))) ((val (v14 x0 x1 x2)).2.2.1)], .sc (.int .i64 ((val (v14 x0 x1 x2)).2.2.2))], [])
  | _, _ => none
theorem wv14 : NewOrc Try.prog dOk base o14 t14 (14, sv14) := by
  intro al H q hq hq1
  have hq : sv14 al H = some q := hq
  unfold sv14 at hq
  split at hq
  · cases hq
    exact ⟨41, (ev14 _ _ _).trans (ok_bind hq1)⟩
  · cases hq
/-- disk.Crash -/
def v16 (x0 : Int) (x1 : (List Int)) (x2 : (List (Int × (List Int)))) (x3 : (List Bool)) (x4 : Int) (x5 : Int) : Option (Int × (List Int) × (List (Int × (List Int))) × Int) := (cond (ok (v24 x0 x1 x2)) (cond (!val (v24 x0 x1 x2)) (some ((0 : Int), [], [], (1 : Int))) (cond ((↑(List.length x3) : Int) != (↑(List.length x2) : Int)) (some ((0 : Int), [], [], (1 : Int))) (cond (decide (x4 < (-1 : Int))) (some ((0 : Int), [], [], (1 : Int))) (cond (decide (x4 ≥ (↑(List.length x3) : Int))) (some ((0 : Int), [], [], (1 : Int))) (cond (decide (x5 < (0 : Int))) (some ((0 : Int), [], [], (1 : Int))) (cond (decide (x5 > x0)) (some ((0 : Int), [], [], (1 : Int))) (cond (ok (L16_0_0 FU x3 x4 x5 x2 (↑(List.length x2) : Int) (0 : Int) x0 x1 x2 (0 : Int) [] [] [])) (cond (ok (v33 x0 x1 x2 (val (L16_0_0 FU x3 x4 x5 x2 (↑(List.length x2) : Int) (0 : Int) x0 x1 x2 (0 : Int) [] [] [])))) (some (x0, val (v33 x0 x1 x2 (val (L16_0_0 FU x3 x4 x5 x2 (↑(List.length x2) : Int) (0 : Int) x0 x1 x2 (0 : Int) [] [] []))), [], (0 : Int))) none) none))))))) none)
theorem ev16 (x0 : Int) (x1 : (List Int)) (x2 : (List (Int × (List Int)))) (x3 : (List Bool)) (x4 : Int) (x5 : Int) : fnBody Try.prog (mkTn base o14 t14 16) (TM.evF Try.prog (mkTn base o14 t14) dOk 40) dOk 40 16 [.agg [.int .i64 (x0), .d 5 (.int .u8) (x1), .d 44 (.pair (.int .i64) (.list 5 (.int .u8))) (x2)], .sc (.d 4 .bool (x3)), .sc (.int .i64 (x4)), .sc (.int .i64 (x5))] [] = (v16 x0 x1 x2 x3 x4 x5).bind fun r => some ([.agg [.int .i64 (r.1), .d 5 (.int .u8) (r.2.1), .d 44 (.pair (.int .i64) (.list 5 (.int .u8))) (r.2.2.1)], .sc (.int .i64 (r.2.2.2))], []) := by
  have h : fnBody Try.prog (mkTn base o14 t14 16) (TM.evF Try.prog (mkTn base o14 t14) dOk 40) dOk 40 16 [.agg [.int .i64 (x0), .d 5 (.int .u8) (x1), .d 44 (.pair (.int .i64) (.list 5 (.int .u8))) (x2)], .sc (.d 4 .bool (x3)), .sc (.int .i64 (x4)), .sc (.int .i64 (x5))] [] = (cond (ok (v24 x0 x1 x2)) (cond (!val (v24 x0 x1 x2)) (some ([.agg [.int .i64 ((0 : Int)), .d 5 (.int .u8) ([]), .d 44 (.pair (.int .i64) (.list 5 (.int .u8))) ([])], .sc (.int .i64 ((1 : Int)))], [])) (cond ((↑(List.length x3) : Int) != (↑(List.length x2) : Int)) (some ([.agg [.int .i64 ((0 : Int)), .d 5 (.int .u8) ([]), .d 44 (.pair (.int .i64) (.list 5 (.int .u8))) ([])], .sc (.int .i64 ((1 : Int)))], [])) (cond (decide (x4 < (-1 : Int))) (some ([.agg [.int .i64 ((0 : Int)), .d 5 (.int .u8) ([]), .d 44 (.pair (.int .i64) (.list 5 (.int .u8))) ([])], .sc (.int .i64 ((1 : Int)))], [])) (cond (decide (x4 ≥ (↑(List.length x3) : Int))) (some ([.agg [.int .i64 ((0 : Int)), .d 5 (.int .u8) ([]), .d 44 (.pair (.int .i64) (.list 5 (.int .u8))) ([])], .sc (.int .i64 ((1 : Int)))], [])) (cond (decide (x5 < (0 : Int))) (some ([.agg [.int .i64 ((0 : Int)), .d 5 (.int .u8) ([]), .d 44 (.pair (.int .i64) (.list 5 (.int .u8))) ([])], .sc (.int .i64 ((1 : Int)))], [])) (cond (decide (x5 > x0)) (some ([.agg [.int .i64 ((0 : Int)), .d 5 (.int .u8) ([]), .d 44 (.pair (.int .i64) (.list 5 (.int .u8))) ([])], .sc (.int .i64 ((1 : Int)))], [])) (cond (ok (L16_0_0 FU x3 x4 x5 x2 (↑(List.length x2) : Int) (0 : Int) x0 x1 x2 (0 : Int) [] [] [])) (cond (ok (v33 x0 x1 x2 (val (L16_0_0 FU x3 x4 x5 x2 (↑(List.length x2) : Int) (0 : Int) x0 x1 x2 (0 : Int) [] [] [])))) (some ([.agg [.int .i64 (x0), .d 5 (.int .u8) (val (v33 x0 x1 x2 (val (L16_0_0 FU x3 x4 x5 x2 (↑(List.length x2) : Int) (0 : Int) x0 x1 x2 (0 : Int) [] [] [])))), .d 44 (.pair (.int .i64) (.list 5 (.int .u8))) ([])], .sc (.int .i64 ((0 : Int)))], [])) none) none))))))) none) := by kernel_rfl
  rw [h]
  unfold v16
  cases (ok (v24 x0 x1 x2)) with
  | true =>
    cases (!val (v24 x0 x1 x2)) with
    | true =>
      rfl
    | false =>
      cases ((↑(List.length x3) : Int) != (↑(List.length x2) : Int)) with
      | true =>
        rfl
      | false =>
        cases (decide (x4 < (-1 : Int))) with
        | true =>
          rfl
        | false =>
          cases (decide (x4 ≥ (↑(List.length x3) : Int))) with
          | true =>
            rfl
          | false =>
            cases (decide (x5 < (0 : Int))) with
            | true =>
              rfl
            | false =>
              cases (decide (x5 > x0)) with
              | true =>
                rfl
              | false =>
                cases (ok (L16_0_0 FU x3 x4 x5 x2 (↑(List.length x2) : Int) (0 : Int) x0 x1 x2 (0 : Int) [] [] [])) with
                | true =>
                  cases (ok (v33 x0 x1 x2 (val (L16_0_0 FU x3 x4 x5 x2 (↑(List.length x2) : Int) (0 : Int) x0 x1 x2 (0 : Int) [] [] [])))) with
                  | true =>
                    rfl
                  | false =>
                    rfl
                | false =>
                  rfl
  | false =>
    rfl
def sv16 : OrcS := fun al H => match al, H with
  | [.agg [.int .i64 (x0), .d 5 (.int .u8) (x1), .d 44 (.pair (.int .i64) (.list 5 (.int .u8))) (x2)], .sc (.d 4 .bool (x3)), .sc (.int .i64 (x4)), .sc (.int .i64 (x5))], [] => some (ok (v16 x0 x1 x2 x3 x4 x5), [.agg [.int .i64 ((val (v16 x0 x1 x2 x3 x4 x5)).1), .d 5 (.int .u8) ((val (v16 x0 x1 x2 x3 x4 x5)).2.1), .d 44 (.pair (.int .i64) (.list 5 (.int .u8))) ((val (v16 x0 x1 x2 x3 x4 x5)).2.2.1)], .sc (.int .i64 ((val (v16 x0 x1 x2 x3 x4 x5)).2.2.2))], [])
  | _, _ => none
theorem wv16 : NewOrc Try.prog dOk base o14 t14 (16, sv16) := by
  intro al H q hq hq1
  have hq : sv16 al H = some q := hq
  unfold sv16 at hq
  split at hq
  · cases hq
    exact ⟨41, (ev16 _ _ _ _ _ _).trans (ok_bind hq1)⟩
  · cases hq
/-- disk.Read -/
def v18 (x0 : Int) (x1 : (List Int)) (x2 : (List (Int × (List Int)))) (x3 : Int) : Option ((List Int) × Int) := (cond (ok (v24 x0 x1 x2)) (cond (!val (v24 x0 x1 x2)) (some ([], (1 : Int))) (cond (ok (v30 x0 x1 x2 x3)) (cond (!val (v30 x0 x1 x2 x3)) (some ([], (1 : Int))) (cond (ok (v33 x0 x1 x2 x2)) (cond (decide ((0 : Int) ≤ IntKind.wrap IntKind.i64 (x3 * x0))) (cond (decide ((0 : Int) ≤ IntKind.wrap IntKind.i64 (IntKind.wrap IntKind.i64 (x3 + (1 : Int)) * x0))) (cond (decide (Int.toNat (IntKind.wrap IntKind.i64 (x3 * x0)) ≤ Int.toNat (IntKind.wrap IntKind.i64 (IntKind.wrap IntKind.i64 (x3 + (1 : Int)) * x0)))) (cond (decide (Int.toNat (IntKind.wrap IntKind.i64 (IntKind.wrap IntKind.i64 (x3 + (1 : Int)) * x0)) ≤ Int.toNat (IntKind.wrap IntKind.i64 (IntKind.wrap IntKind.i64 (x3 + (1 : Int)) * x0)))) (cond (decide (Int.toNat (IntKind.wrap IntKind.i64 (IntKind.wrap IntKind.i64 (x3 + (1 : Int)) * x0)) ≤ List.length (val (v33 x0 x1 x2 x2)))) (cond (decide (List.length (List.drop (Int.toNat (IntKind.wrap IntKind.i64 (x3 * x0))) (List.take (Int.toNat (IntKind.wrap IntKind.i64 (IntKind.wrap IntKind.i64 (x3 + (1 : Int)) * x0))) (val (v33 x0 x1 x2 x2)))) ≤ nat_lit 2147483648)) (some (List.drop (Int.toNat (IntKind.wrap IntKind.i64 (x3 * x0))) (List.take (Int.toNat (IntKind.wrap IntKind.i64 (IntKind.wrap IntKind.i64 (x3 + (1 : Int)) * x0))) (val (v33 x0 x1 x2 x2))), (0 : Int))) none) none) none) none) none) none) none)) none)) none)
theorem ev18 (x0 : Int) (x1 : (List Int)) (x2 : (List (Int × (List Int)))) (x3 : Int) : fnBody Try.prog (mkTn base o14 t14 18) (TM.evF Try.prog (mkTn base o14 t14) dOk 40) dOk 40 18 [.agg [.int .i64 (x0), .d 5 (.int .u8) (x1), .d 44 (.pair (.int .i64) (.list 5 (.int .u8))) (x2)], .sc (.int .i64 (x3))] [] = (v18 x0 x1 x2 x3).bind fun r => some ([.sc (.d 5 (.int .u8) (r.1)), .sc (.int .i64 (r.2))], []) := by
  have h : fnBody Try.prog (mkTn base o14 t14 18) (TM.evF Try.prog (mkTn base o14 t14) dOk 40) dOk 40 18 [.agg [.int .i64 (x0), .d 5 (.int .u8) (x1), .d 44 (.pair (.int .i64) (.list 5 (.int .u8))) (x2)], .sc (.int .i64 (x3))] [] = (cond (ok (v24 x0 x1 x2)) (cond (!val (v24 x0 x1 x2)) (some ([.sc (.d 5 (.int .u8) ([])), .sc (.int .i64 ((1 : Int)))], [])) (cond (ok (v30 x0 x1 x2 x3)) (cond (!val (v30 x0 x1 x2 x3)) (some ([.sc (.d 5 (.int .u8) ([])), .sc (.int .i64 ((1 : Int)))], [])) (cond (ok (v33 x0 x1 x2 x2)) (cond (decide ((0 : Int) ≤ IntKind.wrap IntKind.i64 (x3 * x0))) (cond (decide ((0 : Int) ≤ IntKind.wrap IntKind.i64 (IntKind.wrap IntKind.i64 (x3 + (1 : Int)) * x0))) (cond (decide (Int.toNat (IntKind.wrap IntKind.i64 (x3 * x0)) ≤ Int.toNat (IntKind.wrap IntKind.i64 (IntKind.wrap IntKind.i64 (x3 + (1 : Int)) * x0)))) (cond (decide (Int.toNat (IntKind.wrap IntKind.i64 (IntKind.wrap IntKind.i64 (x3 + (1 : Int)) * x0)) ≤ Int.toNat (IntKind.wrap IntKind.i64 (IntKind.wrap IntKind.i64 (x3 + (1 : Int)) * x0)))) (cond (decide (Int.toNat (IntKind.wrap IntKind.i64 (IntKind.wrap IntKind.i64 (x3 + (1 : Int)) * x0)) ≤ List.length (val (v33 x0 x1 x2 x2)))) (cond (decide (List.length (List.drop (Int.toNat (IntKind.wrap IntKind.i64 (x3 * x0))) (List.take (Int.toNat (IntKind.wrap IntKind.i64 (IntKind.wrap IntKind.i64 (x3 + (1 : Int)) * x0))) (val (v33 x0 x1 x2 x2)))) ≤ nat_lit 2147483648)) (some ([.sc (.d 5 (.int .u8) (List.drop (Int.toNat (IntKind.wrap IntKind.i64 (x3 * x0))) (List.take (Int.toNat (IntKind.wrap IntKind.i64 (IntKind.wrap IntKind.i64 (x3 + (1 : Int)) * x0))) (val (v33 x0 x1 x2 x2))))), .sc (.int .i64 ((0 : Int)))], [])) none) none) none) none) none) none) none)) none)) none) := by kernel_rfl
  rw [h]
  unfold v18
  cases (ok (v24 x0 x1 x2)) with
  | true =>
    cases (!val (v24 x0 x1 x2)) with
    | true =>
      rfl
    | false =>
      cases (ok (v30 x0 x1 x2 x3)) with
      | true =>
        cases (!val (v30 x0 x1 x2 x3)) with
        | true =>
          rfl
        | false =>
          cases (ok (v33 x0 x1 x2 x2)) with
          | true =>
            cases (decide ((0 : Int) ≤ IntKind.wrap IntKind.i64 (x3 * x0))) with
            | true =>
              cases (decide ((0 : Int) ≤ IntKind.wrap IntKind.i64 (IntKind.wrap IntKind.i64 (x3 + (1 : Int)) * x0))) with
              | true =>
                cases (decide (Int.toNat (IntKind.wrap IntKind.i64 (x3 * x0)) ≤ Int.toNat (IntKind.wrap IntKind.i64 (IntKind.wrap IntKind.i64 (x3 + (1 : Int)) * x0)))) with
                | true =>
                  cases (decide (Int.toNat (IntKind.wrap IntKind.i64 (IntKind.wrap IntKind.i64 (x3 + (1 : Int)) * x0)) ≤ Int.toNat (IntKind.wrap IntKind.i64 (IntKind.wrap IntKind.i64 (x3 + (1 : Int)) * x0)))) with
                  | true =>
                    cases (decide (Int.toNat (IntKind.wrap IntKind.i64 (IntKind.wrap IntKind.i64 (x3 + (1 : Int)) * x0)) ≤ List.length (val (v33 x0 x1 x2 x2)))) with
                    | true =>
                      cases (decide (List.length (List.drop (Int.toNat (IntKind.wrap IntKind.i64 (x3 * x0))) (List.take (Int.toNat (IntKind.wrap IntKind.i64 (IntKind.wrap IntKind.i64 (x3 + (1 : Int)) * x0))) (val (v33 x0 x1 x2 x2)))) ≤ nat_lit 2147483648)) with
                      | true =>
                        rfl
                      | false =>
                        rfl
                    | false =>
                      rfl
                  | false =>
                    rfl
                | false =>
                  rfl
              | false =>
                rfl
            | false =>
              rfl
          | false =>
            rfl
      | false =>
        rfl
  | false =>
    rfl
def sv18 : OrcS := fun al H => match al, H with
  | [.agg [.int .i64 (x0), .d 5 (.int .u8) (x1), .d 44 (.pair (.int .i64) (.list 5 (.int .u8))) (x2)], .sc (.int .i64 (x3))], [] => some (ok (v18 x0 x1 x2 x3), [.sc (.d 5 (.int .u8) ((val (v18 x0 x1 x2 x3)).1)), .sc (.int .i64 ((val (v18 x0 x1 x2 x3)).2))], [])
  | _, _ => none
theorem wv18 : NewOrc Try.prog dOk base o14 t14 (18, sv18) := by
  intro al H q hq hq1
  have hq : sv18 al H = some q := hq
  unfold sv18 at hq
  split at hq
  · cases hq
    exact ⟨41, (ev18 _ _ _ _).trans (ok_bind hq1)⟩
  · cases hq
def o15 : OrcT := (14, sv14) :: (16, sv16) :: (18, sv18) :: o14
def t15 : TellT := t14
abbrev tn15 : FuncId → TAn := mkTn base o15 t15
theorem ok15 : TnOk Try.prog tn15 (mkA base) dOk := by
  have h0 : TnOk Try.prog (mkTn base o14 t14) (mkA base) dOk := ok14
  have h1 := tn_orc h0 h0 (p := (18, sv18)) wv18
  have h2 := tn_orc h0 h1 (p := (16, sv16)) wv16
  have h3 := tn_orc h0 h2 (p := (14, sv14)) wv14
  exact h3
end Go.Proofs.Ytchgjjgdgbecmaa
set_option maxRecDepth 1000000
set_option linter.unusedVariables false
set_option maxHeartbeats 4000000
namespace Go.Proofs.Ytchgjjgdgbecmaa
open Go Go.AM Go.TM Go.Proofs
/-- queuelablaw35.write: the loop 0 -/
def L29_0_0 : Nat → (List (Int × (Int × Int))) → Int → Int → Int → (List Int) → (List (Int × (List Int))) → Int → (List Int) → (List (Int × (List Int))) → Option ((Bool × Int × (List Int) × (List (Int × (List Int)))) ⊕ (Int × (List Int) × (List (Int × (List Int)))))
  | 0, _, _, _, _, _, _, _, _, _ => none
  | n + 1, x0, x1, x2, x3, x4, x5, x6, x7, x8 => (cond (decide (x2 < x1)) (cond (decide ((0 : Int) ≤ x2)) (cond (decide (x2 < (↑(List.length x0) : Int))) (cond (ok (v12 x3 x4 x5 (IntKind.wrap IntKind.i64 (Prod.fst (List.getD x0 (Int.toNat x2) ((0 : Int), (0 : Int), (0 : Int))))) [Prod.fst (Prod.snd (List.getD x0 (Int.toNat x2) ((0 : Int), (0 : Int), (0 : Int)))), Prod.snd (Prod.snd (List.getD x0 (Int.toNat x2) ((0 : Int), (0 : Int), (0 : Int))))])) (cond (Prod.snd (Prod.snd (Prod.snd (val (v12 x3 x4 x5 (IntKind.wrap IntKind.i64 (Prod.fst (List.getD x0 (Int.toNat x2) ((0 : Int), (0 : Int), (0 : Int))))) [Prod.fst (Prod.snd (List.getD x0 (Int.toNat x2) ((0 : Int), (0 : Int), (0 : Int)))), Prod.snd (Prod.snd (List.getD x0 (Int.toNat x2) ((0 : Int), (0 : Int), (0 : Int))))])))) != (0 : Int)) (some (.inl (false, x3, x4, x5))) (L29_0_0 n (x0) (x1) (IntKind.wrap IntKind.i64 (x2 + (1 : Int))) (Prod.fst (val (v12 x3 x4 x5 (IntKind.wrap IntKind.i64 (Prod.fst (List.getD x0 (Int.toNat x2) ((0 : Int), (0 : Int), (0 : Int))))) [Prod.fst (Prod.snd (List.getD x0 (Int.toNat x2) ((0 : Int), (0 : Int), (0 : Int)))), Prod.snd (Prod.snd (List.getD x0 (Int.toNat x2) ((0 : Int), (0 : Int), (0 : Int))))]))) (Prod.fst (Prod.snd (val (v12 x3 x4 x5 (IntKind.wrap IntKind.i64 (Prod.fst (List.getD x0 (Int.toNat x2) ((0 : Int), (0 : Int), (0 : Int))))) [Prod.fst (Prod.snd (List.getD x0 (Int.toNat x2) ((0 : Int), (0 : Int), (0 : Int)))), Prod.snd (Prod.snd (List.getD x0 (Int.toNat x2) ((0 : Int), (0 : Int), (0 : Int))))])))) (Prod.fst (Prod.snd (Prod.snd (val (v12 x3 x4 x5 (IntKind.wrap IntKind.i64 (Prod.fst (List.getD x0 (Int.toNat x2) ((0 : Int), (0 : Int), (0 : Int))))) [Prod.fst (Prod.snd (List.getD x0 (Int.toNat x2) ((0 : Int), (0 : Int), (0 : Int)))), Prod.snd (Prod.snd (List.getD x0 (Int.toNat x2) ((0 : Int), (0 : Int), (0 : Int))))]))))) (x6) (x7) (x8))) none) none) none) (some (.inr (x3, x4, x5))))
theorem qL29_0_0 (n : Nat) (x0 : (List (Int × (Int × Int)))) (x1 : Int) (x2 : Int) (x3 : Int) (x4 : (List Int)) (x5 : (List (Int × (List Int)))) (x6 : Int) (x7 : (List Int)) (x8 : (List (Int × (List Int)))) : L29_0_0 (n + 1) x0 x1 x2 x3 x4 x5 x6 x7 x8 = (cond (decide (x2 < x1)) (cond (decide ((0 : Int) ≤ x2)) (cond (decide (x2 < (↑(List.length x0) : Int))) (cond (ok (v12 x3 x4 x5 (IntKind.wrap IntKind.i64 (Prod.fst (List.getD x0 (Int.toNat x2) ((0 : Int), (0 : Int), (0 : Int))))) [Prod.fst (Prod.snd (List.getD x0 (Int.toNat x2) ((0 : Int), (0 : Int), (0 : Int)))), Prod.snd (Prod.snd (List.getD x0 (Int.toNat x2) ((0 : Int), (0 : Int), (0 : Int))))])) (cond (Prod.snd (Prod.snd (Prod.snd (val (v12 x3 x4 x5 (IntKind.wrap IntKind.i64 (Prod.fst (List.getD x0 (Int.toNat x2) ((0 : Int), (0 : Int), (0 : Int))))) [Prod.fst (Prod.snd (List.getD x0 (Int.toNat x2) ((0 : Int), (0 : Int), (0 : Int)))), Prod.snd (Prod.snd (List.getD x0 (Int.toNat x2) ((0 : Int), (0 : Int), (0 : Int))))])))) != (0 : Int)) (some (.inl (false, x3, x4, x5))) (L29_0_0 n (x0) (x1) (IntKind.wrap IntKind.i64 (x2 + (1 : Int))) (Prod.fst (val (v12 x3 x4 x5 (IntKind.wrap IntKind.i64 (Prod.fst (List.getD x0 (Int.toNat x2) ((0 : Int), (0 : Int), (0 : Int))))) [Prod.fst (Prod.snd (List.getD x0 (Int.toNat x2) ((0 : Int), (0 : Int), (0 : Int)))), Prod.snd (Prod.snd (List.getD x0 (Int.toNat x2) ((0 : Int), (0 : Int), (0 : Int))))]))) (Prod.fst (Prod.snd (val (v12 x3 x4 x5 (IntKind.wrap IntKind.i64 (Prod.fst (List.getD x0 (Int.toNat x2) ((0 : Int), (0 : Int), (0 : Int))))) [Prod.fst (Prod.snd (List.getD x0 (Int.toNat x2) ((0 : Int), (0 : Int), (0 : Int)))), Prod.snd (Prod.snd (List.getD x0 (Int.toNat x2) ((0 : Int), (0 : Int), (0 : Int))))])))) (Prod.fst (Prod.snd (Prod.snd (val (v12 x3 x4 x5 (IntKind.wrap IntKind.i64 (Prod.fst (List.getD x0 (Int.toNat x2) ((0 : Int), (0 : Int), (0 : Int))))) [Prod.fst (Prod.snd (List.getD x0 (Int.toNat x2) ((0 : Int), (0 : Int), (0 : Int)))), Prod.snd (Prod.snd (List.getD x0 (Int.toNat x2) ((0 : Int), (0 : Int), (0 : Int))))]))))) (x6) (x7) (x8))) none) none) none) (some (.inr (x3, x4, x5)))) := by rfl
def xL29_0_0 (x0 : (List (Int × (Int × Int)))) (x1 : Int) (x2 : Int) (x3 : Int) (x4 : (List Int)) (x5 : (List (Int × (List Int)))) (x6 : Int) (x7 : (List Int)) (x8 : (List (Int × (List Int)))) : ((Bool × Int × (List Int) × (List (Int × (List Int)))) ⊕ (Int × (List Int) × (List (Int × (List Int))))) → Ex × CS := fun r => match r with | .inl a0 => (.ret, { sl := [(2, .l 2 0), (4, .l 4 0), (5, .v (.sc (.bool (a0.1)))), (8, .l 8 0)], lo := [(4, [.int .i64 (a0.2.1), .d 5 (.int .u8) (a0.2.2.1), .d 44 (.pair (.int .i64) (.list 5 (.int .u8))) (a0.2.2.2)])], h := [], n0 := 0 }) | .inr b0 => ((.exit 0), { sl := [(2, .l 2 0), (4, .l 4 0)], lo := [(2, [.int .i64 (b0.1), .d 5 (.int .u8) (b0.2.1), .d 44 (.pair (.int .i64) (.list 5 (.int .u8))) (b0.2.2)]), (4, [.int .i64 (x6), .g 0, .g 1])], h := [.row 5 (.int .u8) (x7), .row 44 (.pair (.int .i64) (.list 5 (.int .u8))) (x8)], n0 := 0 })
theorem bL29_0_0 (k : Nat) (cN : CS → Option (Ex × CS)) (cX : Ex → CS → Option (Ex × CS)) (x0 : (List (Int × (Int × Int)))) (x1 : Int) (x2 : Int) (x3 : Int) (x4 : (List Int)) (x5 : (List (Int × (List Int)))) (x6 : Int) (x7 : (List Int)) (x8 : (List (Int × (List Int)))) : loopBody Try.prog (mkTn base o15 t15 29) (TM.evF Try.prog (mkTn base o15 t15) dOk (k + 40)) dOk (k + 40) (codeAt Try.prog (tn0 29) 29 0) 0 0 { sl := [(2, .l 2 0), (4, .l 4 0), (10, .v (.sc (.d 54 (.pair (.int .u8) (.pair (.int .u8) (.int .u8))) (x0)))), (11, .v (.sc (.int .i64 (x1)))), (12, .v (.sc (.int .i64 (x2))))], lo := [(2, [.int .i64 (x3), .d 5 (.int .u8) (x4), .d 44 (.pair (.int .i64) (.list 5 (.int .u8))) (x5)]), (4, [.int .i64 (x6), .g 0, .g 1])], h := [.row 5 (.int .u8) (x7), .row 44 (.pair (.int .i64) (.list 5 (.int .u8))) (x8)], n0 := 0 } cN cX = (cond (decide (x2 < x1)) (cond (decide ((0 : Int) ≤ x2)) (cond (decide (x2 < (↑(List.length x0) : Int))) (cond (ok (v12 x3 x4 x5 (IntKind.wrap IntKind.i64 (Prod.fst (List.getD x0 (Int.toNat x2) ((0 : Int), (0 : Int), (0 : Int))))) [Prod.fst (Prod.snd (List.getD x0 (Int.toNat x2) ((0 : Int), (0 : Int), (0 : Int)))), Prod.snd (Prod.snd (List.getD x0 (Int.toNat x2) ((0 : Int), (0 : Int), (0 : Int))))])) (cond (Prod.snd (Prod.snd (Prod.snd (val (v12 x3 x4 x5 (IntKind.wrap IntKind.i64 (Prod.fst (List.getD x0 (Int.toNat x2) ((0 : Int), (0 : Int), (0 : Int))))) [Prod.fst (Prod.snd (List.getD x0 (Int.toNat x2) ((0 : Int), (0 : Int), (0 : Int)))), Prod.snd (Prod.snd (List.getD x0 (Int.toNat x2) ((0 : Int), (0 : Int), (0 : Int))))])))) != (0 : Int)) (cX .ret { sl := [(2, .l 2 0), (4, .l 4 0), (5, .v (.sc (.bool (false)))), (8, .l 8 0)], lo := [(4, [.int .i64 (x3), .d 5 (.int .u8) (x4), .d 44 (.pair (.int .i64) (.list 5 (.int .u8))) (x5)])], h := [], n0 := 0 }) (cN { sl := [(2, .l 2 0), (4, .l 4 0), (10, .v (.sc (.d 54 (.pair (.int .u8) (.pair (.int .u8) (.int .u8))) (x0)))), (11, .v (.sc (.int .i64 (x1)))), (12, .v (.sc (.int .i64 (IntKind.wrap IntKind.i64 (x2 + (1 : Int))))))], lo := [(2, [.int .i64 (Prod.fst (val (v12 x3 x4 x5 (IntKind.wrap IntKind.i64 (Prod.fst (List.getD x0 (Int.toNat x2) ((0 : Int), (0 : Int), (0 : Int))))) [Prod.fst (Prod.snd (List.getD x0 (Int.toNat x2) ((0 : Int), (0 : Int), (0 : Int)))), Prod.snd (Prod.snd (List.getD x0 (Int.toNat x2) ((0 : Int), (0 : Int), (0 : Int))))]))), .d 5 (.int .u8) (Prod.fst (Prod.snd (val (v12 x3 x4 x5 (IntKind.wrap IntKind.i64 (Prod.fst (List.getD x0 (Int.toNat x2) ((0 : Int), (0 : Int), (0 : Int))))) [Prod.fst (Prod.snd (List.getD x0 (Int.toNat x2) ((0 : Int), (0 : Int), (0 : Int)))), Prod.snd (Prod.snd (List.getD x0 (Int.toNat x2) ((0 : Int), (0 : Int), (0 : Int))))])))), .d 44 (.pair (.int .i64) (.list 5 (.int .u8))) (Prod.fst (Prod.snd (Prod.snd (val (v12 x3 x4 x5 (IntKind.wrap IntKind.i64 (Prod.fst (List.getD x0 (Int.toNat x2) ((0 : Int), (0 : Int), (0 : Int))))) [Prod.fst (Prod.snd (List.getD x0 (Int.toNat x2) ((0 : Int), (0 : Int), (0 : Int)))), Prod.snd (Prod.snd (List.getD x0 (Int.toNat x2) ((0 : Int), (0 : Int), (0 : Int))))])))))]), (4, [.int .i64 (x6), .g 0, .g 1])], h := [.row 5 (.int .u8) (x7), .row 44 (.pair (.int .i64) (.list 5 (.int .u8))) (x8)], n0 := 0 })) none) none) none) (cX (.exit 0) { sl := [(2, .l 2 0), (4, .l 4 0)], lo := [(2, [.int .i64 (x3), .d 5 (.int .u8) (x4), .d 44 (.pair (.int .i64) (.list 5 (.int .u8))) (x5)]), (4, [.int .i64 (x6), .g 0, .g 1])], h := [.row 5 (.int .u8) (x7), .row 44 (.pair (.int .i64) (.list 5 (.int .u8))) (x8)], n0 := 0 })) := by kernel_rfl
theorem lL29_0_0 (k m : Nat) : ∀ (n : Nat) (x0 : (List (Int × (Int × Int)))) (x1 : Int) (x2 : Int) (x3 : Int) (x4 : (List Int)) (x5 : (List (Int × (List Int)))) (x6 : Int) (x7 : (List Int)) (x8 : (List (Int × (List Int)))) (r : ((Bool × Int × (List Int) × (List (Int × (List Int)))) ⊕ (Int × (List Int) × (List (Int × (List Int)))))), L29_0_0 n x0 x1 x2 x3 x4 x5 x6 x7 x8 = some r → loopE Try.prog (mkTn base o15 t15 29) (TM.evF Try.prog (mkTn base o15 t15) dOk (k + 40)) dOk (k + 40) (codeAt Try.prog (tn0 29) 29 0) 0 0 (n + m) { sl := [(2, .l 2 0), (4, .l 4 0), (10, .v (.sc (.d 54 (.pair (.int .u8) (.pair (.int .u8) (.int .u8))) (x0)))), (11, .v (.sc (.int .i64 (x1)))), (12, .v (.sc (.int .i64 (x2))))], lo := [(2, [.int .i64 (x3), .d 5 (.int .u8) (x4), .d 44 (.pair (.int .i64) (.list 5 (.int .u8))) (x5)]), (4, [.int .i64 (x6), .g 0, .g 1])], h := [.row 5 (.int .u8) (x7), .row 44 (.pair (.int .i64) (.list 5 (.int .u8))) (x8)], n0 := 0 } = some (xL29_0_0 x0 x1 x2 x3 x4 x5 x6 x7 x8 r) := by
  intro n
  induction n with
  | zero => intro _ _ _ _ _ _ _ _ _ r h; cases h
  | succ n ih =>
    intro x0 x1 x2 x3 x4 x5 x6 x7 x8 r
    rw [show n + 1 + m = n + m + 1 by omega, loop_step, bL29_0_0, qL29_0_0]
    cases (decide (x2 < x1)) with
    | true =>
      cases (decide ((0 : Int) ≤ x2)) with
      | true =>
        cases (decide (x2 < (↑(List.length x0) : Int))) with
        | true =>
          cases (ok (v12 x3 x4 x5 (IntKind.wrap IntKind.i64 (Prod.fst (List.getD x0 (Int.toNat x2) ((0 : Int), (0 : Int), (0 : Int))))) [Prod.fst (Prod.snd (List.getD x0 (Int.toNat x2) ((0 : Int), (0 : Int), (0 : Int)))), Prod.snd (Prod.snd (List.getD x0 (Int.toNat x2) ((0 : Int), (0 : Int), (0 : Int))))])) with
          | true =>
            cases (Prod.snd (Prod.snd (Prod.snd (val (v12 x3 x4 x5 (IntKind.wrap IntKind.i64 (Prod.fst (List.getD x0 (Int.toNat x2) ((0 : Int), (0 : Int), (0 : Int))))) [Prod.fst (Prod.snd (List.getD x0 (Int.toNat x2) ((0 : Int), (0 : Int), (0 : Int)))), Prod.snd (Prod.snd (List.getD x0 (Int.toNat x2) ((0 : Int), (0 : Int), (0 : Int))))])))) != (0 : Int)) with
            | true =>
              intro h; cases h; rfl
            | false =>
              exact ih _ _ _ _ _ _ _ _ _ r
          | false =>
            intro h; cases h
        | false =>
          intro h; cases h
      | false =>
        intro h; cases h
    | false =>
      intro h; cases h; rfl
def sL29_0_0 : TellS := fun S => match S with
  | { sl := [(2, .l 2 0), (4, .l 4 0), (10, .v (.sc (.d 54 (.pair (.int .u8) (.pair (.int .u8) (.int .u8))) (x0)))), (11, .v (.sc (.int .i64 (x1)))), (12, .v (.sc (.int .i64 (x2))))], lo := [(2, [.int .i64 (x3), .d 5 (.int .u8) (x4), .d 44 (.pair (.int .i64) (.list 5 (.int .u8))) (x5)]), (4, [.int .i64 (x6), .g 0, .g 1])], h := [.row 5 (.int .u8) (x7), .row 44 (.pair (.int .i64) (.list 5 (.int .u8))) (x8)], n0 := 0 } => some [(isL (L29_0_0 FU x0 x1 x2 x3 x4 x5 x6 x7 x8), .ret, { sl := [(2, .l 2 0), (4, .l 4 0), (5, .v (.sc (.bool ((getL (L29_0_0 FU x0 x1 x2 x3 x4 x5 x6 x7 x8)).1)))), (8, .l 8 0)], lo := [(4, [.int .i64 ((getL (L29_0_0 FU x0 x1 x2 x3 x4 x5 x6 x7 x8)).2.1), .d 5 (.int .u8) ((getL (L29_0_0 FU x0 x1 x2 x3 x4 x5 x6 x7 x8)).2.2.1), .d 44 (.pair (.int .i64) (.list 5 (.int .u8))) ((getL (L29_0_0 FU x0 x1 x2 x3 x4 x5 x6 x7 x8)).2.2.2)])], h := [], n0 := 0 }), (ok (getR (L29_0_0 FU x0 x1 x2 x3 x4 x5 x6 x7 x8)), (.exit 0), { sl := [(2, .l 2 0), (4, .l 4 0)], lo := [(2, [.int .i64 ((val (getR (L29_0_0 FU x0 x1 x2 x3 x4 x5 x6 x7 x8))).1), .d 5 (.int .u8) ((val (getR (L29_0_0 FU x0 x1 x2 x3 x4 x5 x6 x7 x8))).2.1), .d 44 (.pair (.int .i64) (.list 5 (.int .u8))) ((val (getR (L29_0_0 FU x0 x1 x2 x3 x4 x5 x6 x7 x8))).2.2)]), (4, [.int .i64 (x6), .g 0, .g 1])], h := [.row 5 (.int .u8) (x7), .row 44 (.pair (.int .i64) (.list 5 (.int .u8))) (x8)], n0 := 0 })]
  | _ => none
theorem wL29_0_0 : NewTell Try.prog dOk base o15 t15 ((29, 0), sL29_0_0) := by
  refine ⟨.loop (codeAt Try.prog (tn0 29) 29 0), 0, by kernel_rfl, ?_⟩
  intro S alts e S' h1 h2
  have h1 : sL29_0_0 S = some alts := h1
  unfold sL29_0_0 at h1
  split at h1
  · cases h1
    rcases pick_cons h2 with ⟨hc0, rfl, rfl⟩ | h2
    · exact ⟨FU + 40, (evPiece_loop rfl).trans (lL29_0_0 FU 40 FU _ _ _ _ _ _ _ _ _ _ (isL_val hc0))⟩
    obtain ⟨hc1, rfl, rfl⟩ := pick_one h2
    exact ⟨FU + 40, (evPiece_loop rfl).trans (lL29_0_0 FU 40 FU _ _ _ _ _ _ _ _ _ _ (getR_val (ok_val hc1)))⟩
  · cases h1
def o16 : OrcT := o15
def t16 : TellT := ((29, 0), sL29_0_0) :: t15
abbrev tn16 : FuncId → TAn := mkTn base o16 t16
theorem ok16 : TnOk Try.prog tn16 (mkA base) dOk := by
  have h0 : TnOk Try.prog (mkTn base o15 t15) (mkA base) dOk := ok15
  have h1 := tn_tell h0 h0 (p := ((29, 0), sL29_0_0)) wL29_0_0
  exact h1
end Go.Proofs.Ytchgjjgdgbecmaa
set_option maxRecDepth 1000000
set_option linter.unusedVariables false
set_option maxHeartbeats 4000000
namespace Go.Proofs.Ytchgjjgdgbecmaa
open Go Go.AM Go.TM Go.Proofs
/-- queuelablaw35.write -/
def v29 (x0 : Int) (x1 : (List Int)) (x2 : (List (Int × (List Int)))) (x3 : (List (Int × (Int × Int)))) : Option (Int × (List Int) × (List (Int × (List Int))) × Bool) := (cond (isL (L29_0_0 FU x3 (↑(List.length x3) : Int) (0 : Int) x0 x1 x2 (0 : Int) [] [])) (some (Prod.fst (Prod.snd (getL (L29_0_0 FU x3 (↑(List.length x3) : Int) (0 : Int) x0 x1 x2 (0 : Int) [] []))), Prod.fst (Prod.snd (Prod.snd (getL (L29_0_0 FU x3 (↑(List.length x3) : Int) (0 : Int) x0 x1 x2 (0 : Int) [] [])))), Prod.snd (Prod.snd (Prod.snd (getL (L29_0_0 FU x3 (↑(List.length x3) : Int) (0 : Int) x0 x1 x2 (0 : Int) [] [])))), Prod.fst (getL (L29_0_0 FU x3 (↑(List.length x3) : Int) (0 : Int) x0 x1 x2 (0 : Int) [] [])))) (cond (ok (getR (L29_0_0 FU x3 (↑(List.length x3) : Int) (0 : Int) x0 x1 x2 (0 : Int) [] []))) (some (Prod.fst (val (getR (L29_0_0 FU x3 (↑(List.length x3) : Int) (0 : Int) x0 x1 x2 (0 : Int) [] []))), Prod.fst (Prod.snd (val (getR (L29_0_0 FU x3 (↑(List.length x3) : Int) (0 : Int) x0 x1 x2 (0 : Int) [] [])))), Prod.snd (Prod.snd (val (getR (L29_0_0 FU x3 (↑(List.length x3) : Int) (0 : Int) x0 x1 x2 (0 : Int) [] [])))), true)) none))
theorem ev29 (x0 : Int) (x1 : (List Int)) (x2 : (List (Int × (List Int)))) (x3 : (List (Int × (Int × Int)))) : fnBody Try.prog (mkTn base o16 t16 29) (TM.evF Try.prog (mkTn base o16 t16) dOk 40) dOk 40 29 [.agg [.int .i64 (x0), .d 5 (.int .u8) (x1), .d 44 (.pair (.int .i64) (.list 5 (.int .u8))) (x2)], .sc (.d 54 (.pair (.int .u8) (.pair (.int .u8) (.int .u8))) (x3))] [] = (v29 x0 x1 x2 x3).bind fun r => some ([.agg [.int .i64 (r.1), .d 5 (.int .u8) (r.2.1), .d 44 (.pair (.int .i64) (.list 5 (.int .u8))) (r.2.2.1)], .sc (.bool (r.2.2.2))], []) := by
  have h : fnBody Try.prog (mkTn base o16 t16 29) (TM.evF Try.prog (mkTn base o16 t16) dOk 40) dOk 40 29 [.agg [.int .i64 (x0), .d 5 (.int .u8) (x1), .d 44 (.pair (.int .i64) (.list 5 (.int .u8))) (x2)], .sc (.d 54 (.pair (.int .u8) (.pair (.int .u8) (.int .u8))) (x3))] [] = (cond (isL (L29_0_0 FU x3 (↑(List.length x3) : Int) (0 : Int) x0 x1 x2 (0 : Int) [] [])) (some ([.agg [.int .i64 (Prod.fst (Prod.snd (getL (L29_0_0 FU x3 (↑(List.length x3) : Int) (0 : Int) x0 x1 x2 (0 : Int) [] [])))), .d 5 (.int .u8) (Prod.fst (Prod.snd (Prod.snd (getL (L29_0_0 FU x3 (↑(List.length x3) : Int) (0 : Int) x0 x1 x2 (0 : Int) [] []))))), .d 44 (.pair (.int .i64) (.list 5 (.int .u8))) (Prod.snd (Prod.snd (Prod.snd (getL (L29_0_0 FU x3 (↑(List.length x3) : Int) (0 : Int) x0 x1 x2 (0 : Int) [] [])))))], .sc (.bool (Prod.fst (getL (L29_0_0 FU x3 (↑(List.length x3) : Int) (0 : Int) x0 x1 x2 (0 : Int) [] []))))], [])) (cond (ok (getR (L29_0_0 FU x3 (↑(List.length x3) : Int) (0 : Int) x0 x1 x2 (0 : Int) [] []))) (some ([.agg [.int .i64 (Prod.fst (val (getR (L29_0_0 FU x3 (↑(List.length x3) : Int) (0 : Int) x0 x1 x2 (0 : Int) [] [])))), .d 5 (.int .u8) (Prod.fst (Prod.snd (val (getR (L29_0_0 FU x3 (↑(List.length x3) : Int) (0 : Int) x0 x1 x2 (0 : Int) [] []))))), .d 44 (.pair (.int .i64) (.list 5 (.int .u8))) (Prod.snd (Prod.snd (val (getR (L29_0_0 FU x3 (↑(List.length x3) : Int) (0 : Int) x0 x1 x2 (0 : Int) [] [])))))], .sc (.bool (true))], [])) none)) := by kernel_rfl
  rw [h]
  unfold v29
  cases (isL (L29_0_0 FU x3 (↑(List.length x3) : Int) (0 : Int) x0 x1 x2 (0 : Int) [] [])) with
  | true =>
    rfl
  | false =>
    cases (ok (getR (L29_0_0 FU x3 (↑(List.length x3) : Int) (0 : Int) x0 x1 x2 (0 : Int) [] []))) with
    | true =>
      rfl
    | false =>
      rfl
def sv29 : OrcS := fun al H => match al, H with
  | [.agg [.int .i64 (x0), .d 5 (.int .u8) (x1), .d 44 (.pair (.int .i64) (.list 5 (.int .u8))) (x2)], .sc (.d 54 (.pair (.int .u8) (.pair (.int .u8) (.int .u8))) (x3))], [] => some (ok (v29 x0 x1 x2 x3), [.agg [.int .i64 ((val (v29 x0 x1 x2 x3)).1), .d 5 (.int .u8) ((val (v29 x0 x1 x2 x3)).2.1), .d 44 (.pair (.int .i64) (.list 5 (.int .u8))) ((val (v29 x0 x1 x2 x3)).2.2.1)], .sc (.bool ((val (v29 x0 x1 x2 x3)).2.2.2))], [])
  | _, _ => none
theorem wv29 : NewOrc Try.prog dOk base o16 t16 (29, sv29) := by
  intro al H q hq hq1
  have hq : sv29 al H = some q := hq
  unfold sv29 at hq
  split at hq
  · cases hq
    exact ⟨41, (ev29 _ _ _ _).trans (ok_bind hq1)⟩
  · cases hq
def o17 : OrcT := (29, sv29) :: o16
def t17 : TellT := t16
abbrev tn17 : FuncId → TAn := mkTn base o17 t17
theorem ok17 : TnOk Try.prog tn17 (mkA base) dOk := by
  have h0 : TnOk Try.prog (mkTn base o16 t16) (mkA base) dOk := ok16
  have h1 := tn_orc h0 h0 (p := (29, sv29)) wv29
  exact h1
end Go.Proofs.Ytchgjjgdgbecmaa
set_option maxRecDepth 1000000
set_option linter.unusedVariables false
set_option maxHeartbeats 4000000
namespace Go.Proofs.Ytchgjjgdgbecmaa
open Go Go.AM Go.TM Go.Proofs
/-- queuelablaw35.head -/
def v10 : Option Bool := (some (true))
theorem ev10 : fnBody Try.prog (mkTn base o17 t17 10) (TM.evF Try.prog (mkTn base o17 t17) dOk 40) dOk 40 10 [] [] = (v10).bind fun r => some ([.sc (.bool (r))], []) := by
  have h : fnBody Try.prog (mkTn base o17 t17 10) (TM.evF Try.prog (mkTn base o17 t17) dOk 40) dOk 40 10 [] [] = (some ([.sc (.bool (true))], [])) := by kernel_rfl
  rw [h]
  unfold v10
  rfl
def sv10 : OrcS := fun al H => match al, H with
  | [], [] => some (ok (v10), [.sc (.bool ((val (v10))))], [])
  | _, _ => none
theorem wv10 : NewOrc Try.prog dOk base o17 t17 (10, sv10) := by
  intro al H q hq hq1
  have hq : sv10 al H = some q := hq
  unfold sv10 at hq
  split at hq
  · cases hq
    exact ⟨41, (ev10 ).trans (ok_bind hq1)⟩
  · cases hq
def o18 : OrcT := (10, sv10) :: o17
def t18 : TellT := t17
abbrev tn18 : FuncId → TAn := mkTn base o18 t18
theorem ok18 : TnOk Try.prog tn18 (mkA base) dOk := by
  have h0 : TnOk Try.prog (mkTn base o17 t17) (mkA base) dOk := ok17
  have h1 := tn_orc h0 h0 (p := (10, sv10)) wv10
  exact h1
end Go.Proofs.Ytchgjjgdgbecmaa
set_option maxRecDepth 1000000
set_option linter.unusedVariables false
set_option maxHeartbeats 4000000
namespace Go.Proofs.Ytchgjjgdgbecmaa
open Go Go.AM Go.TM Go.Proofs
/-- queuelablaw35.DiskMatchesReference: the piece 36 -/
def L3_36_0 (x0 : Int) (x1 : Int) (x2 : (List Int)) (x3 : (List Bool)) (x4 : Int) (x5 : Int) (x6 : Bool) (x7 : Int) (x8 : (List Int)) (x9 : (List (Int × (List Int)))) : Option Bool := (cond (ok (v12 x7 x8 x9 x0 x2)) (cond (ok (v13 x7 x8 x9 x0 x2)) (cond (ok (v14 x7 x8 x9)) (cond (ok (v15 x7 x8 x9)) (cond (ok (v16 x7 x8 x9 x3 x4 x5)) (cond (ok (v17 x7 x8 x9 x3 x4 x5)) (cond (ok (v18 x7 x8 x9 x0)) (cond (ok (v19 x7 x8 x9 x0)) (cond (ok (v20 x0 x1)) (cond (ok (v21 x0 x1)) (cond (x6) (cond (ok (v22 (Prod.fst (val (v12 x7 x8 x9 x0 x2))) (Prod.fst (Prod.snd (val (v12 x7 x8 x9 x0 x2)))) (Prod.fst (Prod.snd (Prod.snd (val (v12 x7 x8 x9 x0 x2))))) (Prod.fst (val (v13 x7 x8 x9 x0 x2))) (Prod.fst (Prod.snd (val (v13 x7 x8 x9 x0 x2)))) (Prod.fst (Prod.snd (Prod.snd (val (v13 x7 x8 x9 x0 x2))))))) (cond (val (v22 (Prod.fst (val (v12 x7 x8 x9 x0 x2))) (Prod.fst (Prod.snd (val (v12 x7 x8 x9 x0 x2)))) (Prod.fst (Prod.snd (Prod.snd (val (v12 x7 x8 x9 x0 x2))))) (Prod.fst (val (v13 x7 x8 x9 x0 x2))) (Prod.fst (Prod.snd (val (v13 x7 x8 x9 x0 x2)))) (Prod.fst (Prod.snd (Prod.snd (val (v13 x7 x8 x9 x0 x2))))))) (cond (Prod.snd (Prod.snd (Prod.snd (val (v12 x7 x8 x9 x0 x2)))) == Prod.snd (Prod.snd (Prod.snd (val (v13 x7 x8 x9 x0 x2))))) (cond (ok (v22 (Prod.fst (val (v14 x7 x8 x9))) (Prod.fst (Prod.snd (val (v14 x7 x8 x9)))) (Prod.fst (Prod.snd (Prod.snd (val (v14 x7 x8 x9))))) (Prod.fst (val (v15 x7 x8 x9))) (Prod.fst (Prod.snd (val (v15 x7 x8 x9)))) (Prod.fst (Prod.snd (Prod.snd (val (v15 x7 x8 x9))))))) (cond (val (v22 (Prod.fst (val (v14 x7 x8 x9))) (Prod.fst (Prod.snd (val (v14 x7 x8 x9)))) (Prod.fst (Prod.snd (Prod.snd (val (v14 x7 x8 x9))))) (Prod.fst (val (v15 x7 x8 x9))) (Prod.fst (Prod.snd (val (v15 x7 x8 x9)))) (Prod.fst (Prod.snd (Prod.snd (val (v15 x7 x8 x9))))))) (cond (Prod.snd (Prod.snd (Prod.snd (val (v14 x7 x8 x9)))) == Prod.snd (Prod.snd (Prod.snd (val (v15 x7 x8 x9))))) (cond (ok (v22 (Prod.fst (val (v16 x7 x8 x9 x3 x4 x5))) (Prod.fst (Prod.snd (val (v16 x7 x8 x9 x3 x4 x5)))) (Prod.fst (Prod.snd (Prod.snd (val (v16 x7 x8 x9 x3 x4 x5))))) (Prod.fst (val (v17 x7 x8 x9 x3 x4 x5))) (Prod.fst (Prod.snd (val (v17 x7 x8 x9 x3 x4 x5)))) (Prod.fst (Prod.snd (Prod.snd (val (v17 x7 x8 x9 x3 x4 x5))))))) (cond (val (v22 (Prod.fst (val (v16 x7 x8 x9 x3 x4 x5))) (Prod.fst (Prod.snd (val (v16 x7 x8 x9 x3 x4 x5)))) (Prod.fst (Prod.snd (Prod.snd (val (v16 x7 x8 x9 x3 x4 x5))))) (Prod.fst (val (v17 x7 x8 x9 x3 x4 x5))) (Prod.fst (Prod.snd (val (v17 x7 x8 x9 x3 x4 x5)))) (Prod.fst (Prod.snd (Prod.snd (val (v17 x7 x8 x9 x3 x4 x5))))))) (cond (Prod.snd (Prod.snd (Prod.snd (val (v16 x7 x8 x9 x3 x4 x5)))) == Prod.snd (Prod.snd (Prod.snd (val (v17 x7 x8 x9 x3 x4 x5))))) (cond (ok (v23 (Prod.fst (val (v18 x7 x8 x9 x0))) (Prod.fst (val (v19 x7 x8 x9 x0))))) (cond (val (v23 (Prod.fst (val (v18 x7 x8 x9 x0))) (Prod.fst (val (v19 x7 x8 x9 x0))))) (cond (Prod.snd (val (v18 x7 x8 x9 x0)) == Prod.snd (val (v19 x7 x8 x9 x0))) (cond (ok (v22 (Prod.fst (val (v20 x0 x1))) (Prod.fst (Prod.snd (val (v20 x0 x1)))) (Prod.fst (Prod.snd (Prod.snd (val (v20 x0 x1))))) (Prod.fst (val (v21 x0 x1))) (Prod.fst (Prod.snd (val (v21 x0 x1)))) (Prod.fst (Prod.snd (Prod.snd (val (v21 x0 x1))))))) (cond (val (v22 (Prod.fst (val (v20 x0 x1))) (Prod.fst (Prod.snd (val (v20 x0 x1)))) (Prod.fst (Prod.snd (Prod.snd (val (v20 x0 x1))))) (Prod.fst (val (v21 x0 x1))) (Prod.fst (Prod.snd (val (v21 x0 x1)))) (Prod.fst (Prod.snd (Prod.snd (val (v21 x0 x1))))))) (cond (Prod.snd (Prod.snd (Prod.snd (val (v20 x0 x1)))) == Prod.snd (Prod.snd (Prod.snd (val (v21 x0 x1))))) (cond (ok (v24 x7 x8 x9)) (cond (ok (v25 x7 x8 x9)) (some (val (v24 x7 x8 x9) == val (v25 x7 x8 x9))) none) none) (some (false))) (some (false))) none) (some (false))) (some (false))) none) (some (false))) (some (false))) none) (some (false))) (some (false))) none) (some (false))) (some (false))) none) (some (false))) none) none) none) none) none) none) none) none) none) none)
def xL3_36_0 (x0 : Int) (x1 : Int) (x2 : (List Int)) (x3 : (List Bool)) (x4 : Int) (x5 : Int) (x6 : Bool) (x7 : Int) (x8 : (List Int)) (x9 : (List (Int × (List Int)))) : Bool → Ex × CS := fun r => (.ret, { sl := [(14, .v (.sc (.bool (r))))], lo := [], h := [], n0 := 0 })
theorem bL3_36_0 (k : Nat) (cX : Ex → CS → Option (Ex × CS)) (x0 : Int) (x1 : Int) (x2 : (List Int)) (x3 : (List Bool)) (x4 : Int) (x5 : Int) (x6 : Bool) (x7 : Int) (x8 : (List Int)) (x9 : (List (Int × (List Int)))) : pieceBody Try.prog (mkTn base o18 t18 3) (TM.evF Try.prog (mkTn base o18 t18) dOk (k + 40)) dOk (k + 40) (codeAt Try.prog (tn0 3) 3 36) 0 36 { sl := [(1, .v (.sc (.int .i64 (x0)))), (2, .v (.sc (.int .i64 (x1)))), (3, .v (.sc (.d 5 (.int .u8) (x2)))), (4, .v (.sc (.d 4 .bool (x3)))), (5, .v (.sc (.int .i64 (x4)))), (6, .v (.sc (.int .i64 (x5)))), (7, .l 7 0), (15, .v (.sc (.bool (x6))))], lo := [(7, [.int .i64 (x7), .d 5 (.int .u8) (x8), .d 44 (.pair (.int .i64) (.list 5 (.int .u8))) (x9)])], h := [], n0 := 0 } cX = (cond (ok (v12 x7 x8 x9 x0 x2)) (cond (ok (v13 x7 x8 x9 x0 x2)) (cond (ok (v14 x7 x8 x9)) (cond (ok (v15 x7 x8 x9)) (cond (ok (v16 x7 x8 x9 x3 x4 x5)) (cond (ok (v17 x7 x8 x9 x3 x4 x5)) (cond (ok (v18 x7 x8 x9 x0)) (cond (ok (v19 x7 x8 x9 x0)) (cond (ok (v20 x0 x1)) (cond (ok (v21 x0 x1)) (cond (x6) (cond (ok (v22 (Prod.fst (val (v12 x7 x8 x9 x0 x2))) (Prod.fst (Prod.snd (val (v12 x7 x8 x9 x0 x2)))) (Prod.fst (Prod.snd (Prod.snd (val (v12 x7 x8 x9 x0 x2))))) (Prod.fst (val (v13 x7 x8 x9 x0 x2))) (Prod.fst (Prod.snd (val (v13 x7 x8 x9 x0 x2)))) (Prod.fst (Prod.snd (Prod.snd (val (v13 x7 x8 x9 x0 x2))))))) (cond (val (v22 (Prod.fst (val (v12 x7 x8 x9 x0 x2))) (Prod.fst (Prod.snd (val (v12 x7 x8 x9 x0 x2)))) (Prod.fst (Prod.snd (Prod.snd (val (v12 x7 x8 x9 x0 x2))))) (Prod.fst (val (v13 x7 x8 x9 x0 x2))) (Prod.fst (Prod.snd (val (v13 x7 x8 x9 x0 x2)))) (Prod.fst (Prod.snd (Prod.snd (val (v13 x7 x8 x9 x0 x2))))))) (cond (Prod.snd (Prod.snd (Prod.snd (val (v12 x7 x8 x9 x0 x2)))) == Prod.snd (Prod.snd (Prod.snd (val (v13 x7 x8 x9 x0 x2))))) (cond (ok (v22 (Prod.fst (val (v14 x7 x8 x9))) (Prod.fst (Prod.snd (val (v14 x7 x8 x9)))) (Prod.fst (Prod.snd (Prod.snd (val (v14 x7 x8 x9))))) (Prod.fst (val (v15 x7 x8 x9))) (Prod.fst (Prod.snd (val (v15 x7 x8 x9)))) (Prod.fst (Prod.snd (Prod.snd (val (v15 x7 x8 x9))))))) (cond (val (v22 (Prod.fst (val (v14 x7 x8 x9))) (Prod.fst (Prod.snd (val (v14 x7 x8 x9)))) (Prod.fst (Prod.snd (Prod.snd (val (v14 x7 x8 x9))))) (Prod.fst (val (v15 x7 x8 x9))) (Prod.fst (Prod.snd (val (v15 x7 x8 x9)))) (Prod.fst (Prod.snd (Prod.snd (val (v15 x7 x8 x9))))))) (cond (Prod.snd (Prod.snd (Prod.snd (val (v14 x7 x8 x9)))) == Prod.snd (Prod.snd (Prod.snd (val (v15 x7 x8 x9))))) (cond (ok (v22 (Prod.fst (val (v16 x7 x8 x9 x3 x4 x5))) (Prod.fst (Prod.snd (val (v16 x7 x8 x9 x3 x4 x5)))) (Prod.fst (Prod.snd (Prod.snd (val (v16 x7 x8 x9 x3 x4 x5))))) (Prod.fst (val (v17 x7 x8 x9 x3 x4 x5))) (Prod.fst (Prod.snd (val (v17 x7 x8 x9 x3 x4 x5)))) (Prod.fst (Prod.snd (Prod.snd (val (v17 x7 x8 x9 x3 x4 x5))))))) (cond (val (v22 (Prod.fst (val (v16 x7 x8 x9 x3 x4 x5))) (Prod.fst (Prod.snd (val (v16 x7 x8 x9 x3 x4 x5)))) (Prod.fst (Prod.snd (Prod.snd (val (v16 x7 x8 x9 x3 x4 x5))))) (Prod.fst (val (v17 x7 x8 x9 x3 x4 x5))) (Prod.fst (Prod.snd (val (v17 x7 x8 x9 x3 x4 x5)))) (Prod.fst (Prod.snd (Prod.snd (val (v17 x7 x8 x9 x3 x4 x5))))))) (cond (Prod.snd (Prod.snd (Prod.snd (val (v16 x7 x8 x9 x3 x4 x5)))) == Prod.snd (Prod.snd (Prod.snd (val (v17 x7 x8 x9 x3 x4 x5))))) (cond (ok (v23 (Prod.fst (val (v18 x7 x8 x9 x0))) (Prod.fst (val (v19 x7 x8 x9 x0))))) (cond (val (v23 (Prod.fst (val (v18 x7 x8 x9 x0))) (Prod.fst (val (v19 x7 x8 x9 x0))))) (cond (Prod.snd (val (v18 x7 x8 x9 x0)) == Prod.snd (val (v19 x7 x8 x9 x0))) (cond (ok (v22 (Prod.fst (val (v20 x0 x1))) (Prod.fst (Prod.snd (val (v20 x0 x1)))) (Prod.fst (Prod.snd (Prod.snd (val (v20 x0 x1))))) (Prod.fst (val (v21 x0 x1))) (Prod.fst (Prod.snd (val (v21 x0 x1)))) (Prod.fst (Prod.snd (Prod.snd (val (v21 x0 x1))))))) (cond (val (v22 (Prod.fst (val (v20 x0 x1))) (Prod.fst (Prod.snd (val (v20 x0 x1)))) (Prod.fst (Prod.snd (Prod.snd (val (v20 x0 x1))))) (Prod.fst (val (v21 x0 x1))) (Prod.fst (Prod.snd (val (v21 x0 x1)))) (Prod.fst (Prod.snd (Prod.snd (val (v21 x0 x1))))))) (cond (Prod.snd (Prod.snd (Prod.snd (val (v20 x0 x1)))) == Prod.snd (Prod.snd (Prod.snd (val (v21 x0 x1))))) (cond (ok (v24 x7 x8 x9)) (cond (ok (v25 x7 x8 x9)) (cX .ret { sl := [(14, .v (.sc (.bool (val (v24 x7 x8 x9) == val (v25 x7 x8 x9)))))], lo := [], h := [], n0 := 0 }) none) none) (cX .ret { sl := [(14, .v (.sc (.bool (false))))], lo := [], h := [], n0 := 0 })) (cX .ret { sl := [(14, .v (.sc (.bool (false))))], lo := [], h := [], n0 := 0 })) none) (cX .ret { sl := [(14, .v (.sc (.bool (false))))], lo := [], h := [], n0 := 0 })) (cX .ret { sl := [(14, .v (.sc (.bool (false))))], lo := [], h := [], n0 := 0 })) none) (cX .ret { sl := [(14, .v (.sc (.bool (false))))], lo := [], h := [], n0 := 0 })) (cX .ret { sl := [(14, .v (.sc (.bool (false))))], lo := [], h := [], n0 := 0 })) none) (cX .ret { sl := [(14, .v (.sc (.bool (false))))], lo := [], h := [], n0 := 0 })) (cX .ret { sl := [(14, .v (.sc (.bool (false))))], lo := [], h := [], n0 := 0 })) none) (cX .ret { sl := [(14, .v (.sc (.bool (false))))], lo := [], h := [], n0 := 0 })) (cX .ret { sl := [(14, .v (.sc (.bool (false))))], lo := [], h := [], n0 := 0 })) none) (cX .ret { sl := [(14, .v (.sc (.bool (false))))], lo := [], h := [], n0 := 0 })) none) none) none) none) none) none) none) none) none) none) := by kernel_rfl
theorem lL3_36_0 (k : Nat) (x0 : Int) (x1 : Int) (x2 : (List Int)) (x3 : (List Bool)) (x4 : Int) (x5 : Int) (x6 : Bool) (x7 : Int) (x8 : (List Int)) (x9 : (List (Int × (List Int)))) (r : Bool) : L3_36_0 x0 x1 x2 x3 x4 x5 x6 x7 x8 x9 = some r → pieceBody Try.prog (mkTn base o18 t18 3) (TM.evF Try.prog (mkTn base o18 t18) dOk (k + 40)) dOk (k + 40) (codeAt Try.prog (tn0 3) 3 36) 0 36 { sl := [(1, .v (.sc (.int .i64 (x0)))), (2, .v (.sc (.int .i64 (x1)))), (3, .v (.sc (.d 5 (.int .u8) (x2)))), (4, .v (.sc (.d 4 .bool (x3)))), (5, .v (.sc (.int .i64 (x4)))), (6, .v (.sc (.int .i64 (x5)))), (7, .l 7 0), (15, .v (.sc (.bool (x6))))], lo := [(7, [.int .i64 (x7), .d 5 (.int .u8) (x8), .d 44 (.pair (.int .i64) (.list 5 (.int .u8))) (x9)])], h := [], n0 := 0 } (fun e s => some (e, s)) = some (xL3_36_0 x0 x1 x2 x3 x4 x5 x6 x7 x8 x9 r) := by
  rw [bL3_36_0]
  unfold L3_36_0
  cases (ok (v12 x7 x8 x9 x0 x2)) with
  | true =>
    cases (ok (v13 x7 x8 x9 x0 x2)) with
    | true =>
      cases (ok (v14 x7 x8 x9)) with
      | true =>
        cases (ok (v15 x7 x8 x9)) with
        | true =>
          cases (ok (v16 x7 x8 x9 x3 x4 x5)) with
          | true =>
            cases (ok (v17 x7 x8 x9 x3 x4 x5)) with
            | true =>
              cases (ok (v18 x7 x8 x9 x0)) with
              | true =>
                cases (ok (v19 x7 x8 x9 x0)) with
                | true =>
                  cases (ok (v20 x0 x1)) with
                  | true =>
                    cases (ok (v21 x0 x1)) with
                    | true =>
                      cases x6 with
                      | true =>
                        cases (ok (v22 (Prod.fst (val (v12 x7 x8 x9 x0 x2))) (Prod.fst (Prod.snd (val (v12 x7 x8 x9 x0 x2)))) (Prod.fst (Prod.snd (Prod.snd (val (v12 x7 x8 x9 x0 x2))))) (Prod.fst (val (v13 x7 x8 x9 x0 x2))) (Prod.fst (Prod.snd (val (v13 x7 x8 x9 x0 x2)))) (Prod.fst (Prod.snd (Prod.snd (val (v13 x7 x8 x9 x0 x2))))))) with
                        | true =>
                          cases (val (v22 (Prod.fst (val (v12 x7 x8 x9 x0 x2))) (Prod.fst (Prod.snd (val (v12 x7 x8 x9 x0 x2)))) (Prod.fst (Prod.snd (Prod.snd (val (v12 x7 x8 x9 x0 x2))))) (Prod.fst (val (v13 x7 x8 x9 x0 x2))) (Prod.fst (Prod.snd (val (v13 x7 x8 x9 x0 x2)))) (Prod.fst (Prod.snd (Prod.snd (val (v13 x7 x8 x9 x0 x2))))))) with
                          | true =>
                            cases (Prod.snd (Prod.snd (Prod.snd (val (v12 x7 x8 x9 x0 x2)))) == Prod.snd (Prod.snd (Prod.snd (val (v13 x7 x8 x9 x0 x2))))) with
                            | true =>
                              cases (ok (v22 (Prod.fst (val (v14 x7 x8 x9))) (Prod.fst (Prod.snd (val (v14 x7 x8 x9)))) (Prod.fst (Prod.snd (Prod.snd (val (v14 x7 x8 x9))))) (Prod.fst (val (v15 x7 x8 x9))) (Prod.fst (Prod.snd (val (v15 x7 x8 x9)))) (Prod.fst (Prod.snd (Prod.snd (val (v15 x7 x8 x9))))))) with
                              | true =>
                                cases (val (v22 (Prod.fst (val (v14 x7 x8 x9))) (Prod.fst (Prod.snd (val (v14 x7 x8 x9)))) (Prod.fst (Prod.snd (Prod.snd (val (v14 x7 x8 x9))))) (Prod.fst (val (v15 x7 x8 x9))) (Prod.fst (Prod.snd (val (v15 x7 x8 x9)))) (Prod.fst (Prod.snd (Prod.snd (val (v15 x7 x8 x9))))))) with
                                | true =>
                                  cases (Prod.snd (Prod.snd (Prod.snd (val (v14 x7 x8 x9)))) == Prod.snd (Prod.snd (Prod.snd (val (v15 x7 x8 x9))))) with
                                  | true =>
                                    cases (ok (v22 (Prod.fst (val (v16 x7 x8 x9 x3 x4 x5))) (Prod.fst (Prod.snd (val (v16 x7 x8 x9 x3 x4 x5)))) (Prod.fst (Prod.snd (Prod.snd (val (v16 x7 x8 x9 x3 x4 x5))))) (Prod.fst (val (v17 x7 x8 x9 x3 x4 x5))) (Prod.fst (Prod.snd (val (v17 x7 x8 x9 x3 x4 x5)))) (Prod.fst (Prod.snd (Prod.snd (val (v17 x7 x8 x9 x3 x4 x5))))))) with
                                    | true =>
                                      cases (val (v22 (Prod.fst (val (v16 x7 x8 x9 x3 x4 x5))) (Prod.fst (Prod.snd (val (v16 x7 x8 x9 x3 x4 x5)))) (Prod.fst (Prod.snd (Prod.snd (val (v16 x7 x8 x9 x3 x4 x5))))) (Prod.fst (val (v17 x7 x8 x9 x3 x4 x5))) (Prod.fst (Prod.snd (val (v17 x7 x8 x9 x3 x4 x5)))) (Prod.fst (Prod.snd (Prod.snd (val (v17 x7 x8 x9 x3 x4 x5))))))) with
                                      | true =>
                                        cases (Prod.snd (Prod.snd (Prod.snd (val (v16 x7 x8 x9 x3 x4 x5)))) == Prod.snd (Prod.snd (Prod.snd (val (v17 x7 x8 x9 x3 x4 x5))))) with
                                        | true =>
                                          cases (ok (v23 (Prod.fst (val (v18 x7 x8 x9 x0))) (Prod.fst (val (v19 x7 x8 x9 x0))))) with
                                          | true =>
                                            cases (val (v23 (Prod.fst (val (v18 x7 x8 x9 x0))) (Prod.fst (val (v19 x7 x8 x9 x0))))) with
                                            | true =>
                                              cases (Prod.snd (val (v18 x7 x8 x9 x0)) == Prod.snd (val (v19 x7 x8 x9 x0))) with
                                              | true =>
                                                cases (ok (v22 (Prod.fst (val (v20 x0 x1))) (Prod.fst (Prod.snd (val (v20 x0 x1)))) (Prod.fst (Prod.snd (Prod.snd (val (v20 x0 x1))))) (Prod.fst (val (v21 x0 x1))) (Prod.fst (Prod.snd (val (v21 x0 x1)))) (Prod.fst (Prod.snd (Prod.snd (val (v21 x0 x1))))))) with
                                                | true =>
                                                  cases (val (v22 (Prod.fst (val (v20 x0 x1))) (Prod.fst (Prod.snd (val (v20 x0 x1)))) (Prod.fst (Prod.snd (Prod.snd (val (v20 x0 x1))))) (Prod.fst (val (v21 x0 x1))) (Prod.fst (Prod.snd (val (v21 x0 x1)))) (Prod.fst (Prod.snd (Prod.snd (val (v21 x0 x1))))))) with
                                                  | true =>
                                                    cases (Prod.snd (Prod.snd (Prod.snd (val (v20 x0 x1)))) == Prod.snd (Prod.snd (Prod.snd (val (v21 x0 x1))))) with
                                                    | true =>
                                                      cases (ok (v24 x7 x8 x9)) with
                                                      | true =>
                                                        cases (ok (v25 x7 x8 x9)) with
                                                        | true =>
                                                          intro h; cases h; rfl
                                                        | false =>
                                                          intro h; cases h
                                                      | false =>
                                                        intro h; cases h
                                                    | false =>
                                                      intro h; cases h; rfl
                                                  | false =>
                                                    intro h; cases h; rfl
                                                | false =>
                                                  intro h; cases h
                                              | false =>
                                                intro h; cases h; rfl
                                            | false =>
                                              intro h; cases h; rfl
                                          | false =>
                                            intro h; cases h
                                        | false =>
                                          intro h; cases h; rfl
                                      | false =>
                                        intro h; cases h; rfl
                                    | false =>
                                      intro h; cases h
                                  | false =>
                                    intro h; cases h; rfl
                                | false =>
                                  intro h; cases h; rfl
                              | false =>
                                intro h; cases h
                            | false =>
                              intro h; cases h; rfl
                          | false =>
                            intro h; cases h; rfl
                        | false =>
                          intro h; cases h
                      | false =>
                        intro h; cases h; rfl
                    | false =>
                      intro h; cases h
                  | false =>
                    intro h; cases h
                | false =>
                  intro h; cases h
              | false =>
                intro h; cases h
            | false =>
              intro h; cases h
          | false =>
            intro h; cases h
        | false =>
          intro h; cases h
      | false =>
        intro h; cases h
    | false =>
      intro h; cases h
  | false =>
    intro h; cases h
def sL3_36_0 : TellS := fun S => match S with
  | { sl := [(1, .v (.sc (.int .i64 (x0)))), (2, .v (.sc (.int .i64 (x1)))), (3, .v (.sc (.d 5 (.int .u8) (x2)))), (4, .v (.sc (.d 4 .bool (x3)))), (5, .v (.sc (.int .i64 (x4)))), (6, .v (.sc (.int .i64 (x5)))), (7, .l 7 0), (15, .v (.sc (.bool (x6))))], lo := [(7, [.int .i64 (x7), .d 5 (.int .u8) (x8), .d 44 (.pair (.int .i64) (.list 5 (.int .u8))) (x9)])], h := [], n0 := 0 } => some [(ok (L3_36_0 x0 x1 x2 x3 x4 x5 x6 x7 x8 x9), .ret, { sl := [(14, .v (.sc (.bool ((val (L3_36_0 x0 x1 x2 x3 x4 x5 x6 x7 x8 x9))))))], lo := [], h := [], n0 := 0 })]
  | _ => none
theorem wL3_36_0 : NewTell Try.prog dOk base o18 t18 ((3, 36), sL3_36_0) := by
  refine ⟨(codeAt Try.prog (tn0 3) 3 36), 0, by kernel_rfl, ?_⟩
  intro S alts e S' h1 h2
  have h1 : sL3_36_0 S = some alts := h1
  unfold sL3_36_0 at h1
  split at h1
  · cases h1
    obtain ⟨hc0, rfl, rfl⟩ := pick_one h2
    exact ⟨0 + 40, (evPiece_code rfl).trans (lL3_36_0 0 _ _ _ _ _ _ _ _ _ _ _ (ok_val hc0))⟩
  · cases h1
def o19 : OrcT := o18
def t19 : TellT := ((3, 36), sL3_36_0) :: t18
abbrev tn19 : FuncId → TAn := mkTn base o19 t19
theorem ok19 : TnOk Try.prog tn19 (mkA base) dOk := by
  have h0 : TnOk Try.prog (mkTn base o18 t18) (mkA base) dOk := ok18
  have h1 := tn_tell h0 h0 (p := ((3, 36), sL3_36_0)) wL3_36_0
  exact h1
end Go.Proofs.Ytchgjjgdgbecmaa
set_option maxRecDepth 1000000
set_option linter.unusedVariables false
set_option maxHeartbeats 4000000
namespace Go.Proofs.Ytchgjjgdgbecmaa
open Go Go.AM Go.TM Go.Proofs
/-- queuelablaw35.DiskMatchesReference -/
def v3 (x0 : Int) (x1 : (List Int)) (x2 : (List (Int × (List Int)))) (x3 : Int) (x4 : Int) (x5 : (List Int)) (x6 : (List Bool)) (x7 : Int) (x8 : Int) : Option Bool := (cond (ok (v11 x0 x1 x2)) (cond (!val (v11 x0 x1 x2)) (some (true)) (cond (decide ((↑(List.length x5) : Int) > (600 : Int))) (some (true)) (cond (decide ((↑(List.length x6) : Int) > (100 : Int))) (some (true)) (cond (ok (L3_36_0 x3 x4 x5 x6 x7 x8 (val v10) x0 x1 x2)) (some (val (L3_36_0 x3 x4 x5 x6 x7 x8 (val v10) x0 x1 x2))) none)))) none)
theorem ev3 (x0 : Int) (x1 : (List Int)) (x2 : (List (Int × (List Int)))) (x3 : Int) (x4 : Int) (x5 : (List Int)) (x6 : (List Bool)) (x7 : Int) (x8 : Int) : fnBody Try.prog (mkTn base o19 t19 3) (TM.evF Try.prog (mkTn base o19 t19) dOk 40) dOk 40 3 [.agg [.int .i64 (x0), .d 5 (.int .u8) (x1), .d 44 (.pair (.int .i64) (.list 5 (.int .u8))) (x2)], .sc (.int .i64 (x3)), .sc (.int .i64 (x4)), .sc (.d 5 (.int .u8) (x5)), .sc (.d 4 .bool (x6)), .sc (.int .i64 (x7)), .sc (.int .i64 (x8))] [] = (v3 x0 x1 x2 x3 x4 x5 x6 x7 x8).bind fun r => some ([.sc (.bool (r))], []) := by
  have h : fnBody Try.prog (mkTn base o19 t19 3) (TM.evF Try.prog (mkTn base o19 t19) dOk 40) dOk 40 3 [.agg [.int .i64 (x0), .d 5 (.int .u8) (x1), .d 44 (.pair (.int .i64) (.list 5 (.int .u8))) (x2)], .sc (.int .i64 (x3)), .sc (.int .i64 (x4)), .sc (.d 5 (.int .u8) (x5)), .sc (.d 4 .bool (x6)), .sc (.int .i64 (x7)), .sc (.int .i64 (x8))] [] = (cond (ok (v11 x0 x1 x2)) (cond (!val (v11 x0 x1 x2)) (some ([.sc (.bool (true))], [])) (cond (decide ((↑(List.length x5) : Int) > (600 : Int))) (some ([.sc (.bool (true))], [])) (cond (decide ((↑(List.length x6) : Int) > (100 : Int))) (some ([.sc (.bool (true))], [])) (cond (ok (L3_36_0 x3 x4 x5 x6 x7 x8 (val v10) x0 x1 x2)) (some ([.sc (.bool (val (L3_36_0 x3 x4 x5 x6 x7 x8 (val v10) x0 x1 x2)))], [])) none)))) none) := by kernel_rfl
  rw [h]
  unfold v3
  cases (ok (v11 x0 x1 x2)) with
  | true =>
    cases (!val (v11 x0 x1 x2)) with
    | true =>
      rfl
    | false =>
      cases (decide ((↑(List.length x5) : Int) > (600 : Int))) with
      | true =>
        rfl
      | false =>
        cases (decide ((↑(List.length x6) : Int) > (100 : Int))) with
        | true =>
          rfl
        | false =>
          cases (ok (L3_36_0 x3 x4 x5 x6 x7 x8 (val v10) x0 x1 x2)) with
          | true =>
            rfl
          | false =>
            rfl
  | false =>
    rfl
def sv3 : OrcS := fun al H => match al, H with
  | [.agg [.int .i64 (x0), .d 5 (.int .u8) (x1), .d 44 (.pair (.int .i64) (.list 5 (.int .u8))) (x2)], .sc (.int .i64 (x3)), .sc (.int .i64 (x4)), .sc (.d 5 (.int .u8) (x5)), .sc (.d 4 .bool (x6)), .sc (.int .i64 (x7)), .sc (.int .i64 (x8))], [] => some (ok (v3 x0 x1 x2 x3 x4 x5 x6 x7 x8), [.sc (.bool ((val (v3 x0 x1 x2 x3 x4 x5 x6 x7 x8))))], [])
  | _, _ => none
theorem wv3 : NewOrc Try.prog dOk base o19 t19 (3, sv3) := by
  intro al H q hq hq1
  have hq : sv3 al H = some q := hq
  unfold sv3 at hq
  split at hq
  · cases hq
    exact ⟨41, (ev3 _ _ _ _ _ _ _ _ _).trans (ok_bind hq1)⟩
  · cases hq
def o20 : OrcT := (3, sv3) :: o19
def t20 : TellT := t19
abbrev tn20 : FuncId → TAn := mkTn base o20 t20
theorem ok20 : TnOk Try.prog tn20 (mkA base) dOk := by
  have h0 : TnOk Try.prog (mkTn base o19 t19) (mkA base) dOk := ok19
  have h1 := tn_orc h0 h0 (p := (3, sv3)) wv3
  exact h1
end Go.Proofs.Ytchgjjgdgbecmaa
set_option maxRecDepth 1000000
set_option linter.unusedVariables false
set_option maxHeartbeats 4000000
namespace Go.Proofs.Ytchgjjgdgbecmaa
open Go Go.AM Go.TM Go.Proofs
/-- queuelablaw35.usable -/
def v26 (x0 : Int) (x1 : (List Int)) (x2 : (List (Int × (List Int)))) : Option Bool := (cond (ok (v11 x0 x1 x2)) (cond (val (v11 x0 x1 x2)) (cond (ok (v25 x0 x1 x2)) (some (val (v25 x0 x1 x2))) none) (some (false))) none)
theorem ev26 (x0 : Int) (x1 : (List Int)) (x2 : (List (Int × (List Int)))) : fnBody Try.prog (mkTn base o20 t20 26) (TM.evF Try.prog (mkTn base o20 t20) dOk 40) dOk 40 26 [.agg [.int .i64 (x0), .d 5 (.int .u8) (x1), .d 44 (.pair (.int .i64) (.list 5 (.int .u8))) (x2)]] [] = (v26 x0 x1 x2).bind fun r => some ([.sc (.bool (r))], []) := by
  have h : fnBody Try.prog (mkTn base o20 t20 26) (TM.evF Try.prog (mkTn base o20 t20) dOk 40) dOk 40 26 [.agg [.int .i64 (x0), .d 5 (.int .u8) (x1), .d 44 (.pair (.int .i64) (.list 5 (.int .u8))) (x2)]] [] = (cond (ok (v11 x0 x1 x2)) (cond (val (v11 x0 x1 x2)) (cond (ok (v25 x0 x1 x2)) (some ([.sc (.bool (val (v25 x0 x1 x2)))], [])) none) (some ([.sc (.bool (false))], []))) none) := by kernel_rfl
  rw [h]
  unfold v26
  cases (ok (v11 x0 x1 x2)) with
  | true =>
    cases (val (v11 x0 x1 x2)) with
    | true =>
      cases (ok (v25 x0 x1 x2)) with
      | true =>
        rfl
      | false =>
        rfl
    | false =>
      rfl
  | false =>
    rfl
def sv26 : OrcS := fun al H => match al, H with
  | [.agg [.int .i64 (x0), .d 5 (.int .u8) (x1), .d 44 (.pair (.int .i64) (.list 5 (.int .u8))) (x2)]], [] => some (ok (v26 x0 x1 x2), [.sc (.bool ((val (v26 x0 x1 x2))))], [])
  | _, _ => none
theorem wv26 : NewOrc Try.prog dOk base o20 t20 (26, sv26) := by
  intro al H q hq hq1
  have hq : sv26 al H = some q := hq
  unfold sv26 at hq
  split at hq
  · cases hq
    exact ⟨41, (ev26 _ _ _).trans (ok_bind hq1)⟩
  · cases hq
def o21 : OrcT := (26, sv26) :: o20
def t21 : TellT := t20
abbrev tn21 : FuncId → TAn := mkTn base o21 t21
theorem ok21 : TnOk Try.prog tn21 (mkA base) dOk := by
  have h0 : TnOk Try.prog (mkTn base o20 t20) (mkA base) dOk := ok20
  have h1 := tn_orc h0 h0 (p := (26, sv26)) wv26
  exact h1
end Go.Proofs.Ytchgjjgdgbecmaa
set_option maxRecDepth 1000000
set_option linter.unusedVariables false
set_option maxHeartbeats 4000000
namespace Go.Proofs.Ytchgjjgdgbecmaa
open Go Go.AM Go.TM Go.Proofs
/-- queuelablaw35.DiskEach: the piece 132 -/
def L5_132_0 (x0 : Bool) (x1 : Int) (x2 : Int) (x3 : Bool) (x4 : (List Int)) (x5 : Int) (x6 : Int) (x7 : (List (Int × (List Int)))) (x8 : Int) (x9 : Int) (x10 : Int) (x11 : (List Int)) (x12 : (List (Int × (List Int)))) (x13 : Int) (x14 : (List Int)) : Option Bool := (cond (x3) (some (true)) (cond (decide (x10 ≠ (0 : Int))) (cond (x13 == IntKind.wrap IntKind.i64 (Int.tdiv x1 x10)) (cond (decide ((0 : Int) ≤ Int.tmod x1 x10)) (cond (decide (Int.tmod x1 x10 < (↑(List.length x14) : Int))) (some (List.getD x14 (Int.toNat (Int.tmod x1 x10)) (0 : Int) == x2)) none) none) (some (false))) none))
def xL5_132_0 (x0 : Bool) (x1 : Int) (x2 : Int) (x3 : Bool) (x4 : (List Int)) (x5 : Int) (x6 : Int) (x7 : (List (Int × (List Int)))) (x8 : Int) (x9 : Int) (x10 : Int) (x11 : (List Int)) (x12 : (List (Int × (List Int)))) (x13 : Int) (x14 : (List Int)) : Bool → Ex × CS := fun r => (.normal, { sl := [(4, .l 4 0), (9, .v (.sc (.bool (x0)))), (12, .v (.sc (.int .i64 (x1)))), (13, .v (.sc (.int .u8 (x2)))), (14, .v (.sc (.bool (r)))), (64, .v (.sc (.d 5 (.int .u8) (x4)))), (65, .v (.sc (.int .i64 (x5)))), (66, .v (.sc (.int .i64 (x6)))), (79, .v (.sc (.d 44 (.pair (.int .i64) (.list 5 (.int .u8))) (x7)))), (80, .v (.sc (.int .i64 (x8)))), (81, .v (.sc (.int .i64 (x9))))], lo := [(4, [.int .i64 (x10), .d 5 (.int .u8) (x11), .d 44 (.pair (.int .i64) (.list 5 (.int .u8))) (x12)])], h := [], n0 := 0 })
theorem bL5_132_0 (k : Nat) (cX : Ex → CS → Option (Ex × CS)) (x0 : Bool) (x1 : Int) (x2 : Int) (x3 : Bool) (x4 : (List Int)) (x5 : Int) (x6 : Int) (x7 : (List (Int × (List Int)))) (x8 : Int) (x9 : Int) (x10 : Int) (x11 : (List Int)) (x12 : (List (Int × (List Int)))) (x13 : Int) (x14 : (List Int)) : pieceBody Try.prog (mkTn base o21 t21 5) (TM.evF Try.prog (mkTn base o21 t21) dOk (k + 40)) dOk (k + 40) (codeAt Try.prog (tn0 5) 5 132) 3 132 { sl := [(4, .l 4 0), (9, .v (.sc (.bool (x0)))), (12, .v (.sc (.int .i64 (x1)))), (13, .v (.sc (.int .u8 (x2)))), (14, .v (.sc (.bool (x3)))), (16, .l 16 0), (64, .v (.sc (.d 5 (.int .u8) (x4)))), (65, .v (.sc (.int .i64 (x5)))), (66, .v (.sc (.int .i64 (x6)))), (79, .v (.sc (.d 44 (.pair (.int .i64) (.list 5 (.int .u8))) (x7)))), (80, .v (.sc (.int .i64 (x8)))), (81, .v (.sc (.int .i64 (x9))))], lo := [(4, [.int .i64 (x10), .d 5 (.int .u8) (x11), .d 44 (.pair (.int .i64) (.list 5 (.int .u8))) (x12)]), (16, [.int .i64 (x13), .d 5 (.int .u8) (x14)])], h := [], n0 := 0 } cX = (cond (x3) (cX .normal { sl := [(4, .l 4 0), (9, .v (.sc (.bool (x0)))), (12, .v (.sc (.int .i64 (x1)))), (13, .v (.sc (.int .u8 (x2)))), (14, .v (.sc (.bool (true)))), (64, .v (.sc (.d 5 (.int .u8) (x4)))), (65, .v (.sc (.int .i64 (x5)))), (66, .v (.sc (.int .i64 (x6)))), (79, .v (.sc (.d 44 (.pair (.int .i64) (.list 5 (.int .u8))) (x7)))), (80, .v (.sc (.int .i64 (x8)))), (81, .v (.sc (.int .i64 (x9))))], lo := [(4, [.int .i64 (x10), .d 5 (.int .u8) (x11), .d 44 (.pair (.int .i64) (.list 5 (.int .u8))) (x12)])], h := [], n0 := 0 }) (cond (decide (x10 ≠ (0 : Int))) (cond (x13 == IntKind.wrap IntKind.i64 (Int.tdiv x1 x10)) (cond (decide (x10 ≠ (0 : Int))) (cond (decide ((0 : Int) ≤ Int.tmod x1 x10)) (cond (decide (Int.tmod x1 x10 < (↑(List.length x14) : Int))) (cX .normal { sl := [(4, .l 4 0), (9, .v (.sc (.bool (x0)))), (12, .v (.sc (.int .i64 (x1)))), (13, .v (.sc (.int .u8 (x2)))), (14, .v (.sc (.bool (List.getD x14 (Int.toNat (Int.tmod x1 x10)) (0 : Int) == x2)))), (64, .v (.sc (.d 5 (.int .u8) (x4)))), (65, .v (.sc (.int .i64 (x5)))), (66, .v (.sc (.int .i64 (x6)))), (79, .v (.sc (.d 44 (.pair (.int .i64) (.list 5 (.int .u8))) (x7)))), (80, .v (.sc (.int .i64 (x8)))), (81, .v (.sc (.int .i64 (x9))))], lo := [(4, [.int .i64 (x10), .d 5 (.int .u8) (x11), .d 44 (.pair (.int .i64) (.list 5 (.int .u8))) (x12)])], h := [], n0 := 0 }) none) none) none) (cX .normal { sl := [(4, .l 4 0), (9, .v (.sc (.bool (x0)))), (12, .v (.sc (.int .i64 (x1)))), (13, .v (.sc (.int .u8 (x2)))), (14, .v (.sc (.bool (false)))), (64, .v (.sc (.d 5 (.int .u8) (x4)))), (65, .v (.sc (.int .i64 (x5)))), (66, .v (.sc (.int .i64 (x6)))), (79, .v (.sc (.d 44 (.pair (.int .i64) (.list 5 (.int .u8))) (x7)))), (80, .v (.sc (.int .i64 (x8)))), (81, .v (.sc (.int .i64 (x9))))], lo := [(4, [.int .i64 (x10), .d 5 (.int .u8) (x11), .d 44 (.pair (.int .i64) (.list 5 (.int .u8))) (x12)])], h := [], n0 := 0 })) none)) := by kernel_rfl
theorem lL5_132_0 (k : Nat) (x0 : Bool) (x1 : Int) (x2 : Int) (x3 : Bool) (x4 : (List Int)) (x5 : Int) (x6 : Int) (x7 : (List (Int × (List Int)))) (x8 : Int) (x9 : Int) (x10 : Int) (x11 : (List Int)) (x12 : (List (Int × (List Int)))) (x13 : Int) (x14 : (List Int)) (r : Bool) : L5_132_0 x0 x1 x2 x3 x4 x5 x6 x7 x8 x9 x10 x11 x12 x13 x14 = some r → pieceBody Try.prog (mkTn base o21 t21 5) (TM.evF Try.prog (mkTn base o21 t21) dOk (k + 40)) dOk (k + 40) (codeAt Try.prog (tn0 5) 5 132) 3 132 { sl := [(4, .l 4 0), (9, .v (.sc (.bool (x0)))), (12, .v (.sc (.int .i64 (x1)))), (13, .v (.sc (.int .u8 (x2)))), (14, .v (.sc (.bool (x3)))), (16, .l 16 0), (64, .v (.sc (.d 5 (.int .u8) (x4)))), (65, .v (.sc (.int .i64 (x5)))), (66, .v (.sc (.int .i64 (x6)))), (79, .v (.sc (.d 44 (.pair (.int .i64) (.list 5 (.int .u8))) (x7)))), (80, .v (.sc (.int .i64 (x8)))), (81, .v (.sc (.int .i64 (x9))))], lo := [(4, [.int .i64 (x10), .d 5 (.int .u8) (x11), .d 44 (.pair (.int .i64) (.list 5 (.int .u8))) (x12)]), (16, [.int .i64 (x13), .d 5 (.int .u8) (x14)])], h := [], n0 := 0 } (fun e s => some (e, s)) = some (xL5_132_0 x0 x1 x2 x3 x4 x5 x6 x7 x8 x9 x10 x11 x12 x13 x14 r) := by
  rw [bL5_132_0]
  unfold L5_132_0
  cases x3 with
  | true =>
    intro h; cases h; rfl
  | false =>
    cases (decide (x10 ≠ (0 : Int))) with
    | true =>
      cases (x13 == IntKind.wrap IntKind.i64 (Int.tdiv x1 x10)) with
      | true =>
        cases (decide ((0 : Int) ≤ Int.tmod x1 x10)) with
        | true =>
          cases (decide (Int.tmod x1 x10 < (↑(List.length x14) : Int))) with
          | true =>
            intro h; cases h; rfl
          | false =>
            intro h; cases h
        | false =>
          intro h; cases h
      | false =>
        intro h; cases h; rfl
    | false =>
      intro h; cases h
def sL5_132_0 : TellS := fun S => match S with
  | { sl := [(4, .l 4 0), (9, .v (.sc (.bool (x0)))), (12, .v (.sc (.int .i64 (x1)))), (13, .v (.sc (.int .u8 (x2)))), (14, .v (.sc (.bool (x3)))), (16, .l 16 0), (64, .v (.sc (.d 5 (.int .u8) (x4)))), (65, .v (.sc (.int .i64 (x5)))), (66, .v (.sc (.int .i64 (x6)))), (79, .v (.sc (.d 44 (.pair (.int .i64) (.list 5 (.int .u8))) (x7)))), (80, .v (.sc (.int .i64 (x8)))), (81, .v (.sc (.int .i64 (x9))))], lo := [(4, [.int .i64 (x10), .d 5 (.int .u8) (x11), .d 44 (.pair (.int .i64) (.list 5 (.int .u8))) (x12)]), (16, [.int .i64 (x13), .d 5 (.int .u8) (x14)])], h := [], n0 := 0 } => some [(ok (L5_132_0 x0 x1 x2 x3 x4 x5 x6 x7 x8 x9 x10 x11 x12 x13 x14), .normal, { sl := [(4, .l 4 0), (9, .v (.sc (.bool (x0)))), (12, .v (.sc (.int .i64 (x1)))), (13, .v (.sc (.int .u8 (x2)))), (14, .v (.sc (.bool ((val (L5_132_0 x0 x1 x2 x3 x4 x5 x6 x7 x8 x9 x10 x11 x12 x13 x14)))))), (64, .v (.sc (.d 5 (.int .u8) (x4)))), (65, .v (.sc (.int .i64 (x5)))), (66, .v (.sc (.int .i64 (x6)))), (79, .v (.sc (.d 44 (.pair (.int .i64) (.list 5 (.int .u8))) (x7)))), (80, .v (.sc (.int .i64 (x8)))), (81, .v (.sc (.int .i64 (x9))))], lo := [(4, [.int .i64 (x10), .d 5 (.int .u8) (x11), .d 44 (.pair (.int .i64) (.list 5 (.int .u8))) (x12)])], h := [], n0 := 0 })]
  | _ => none
theorem wL5_132_0 : NewTell Try.prog dOk base o21 t21 ((5, 132), sL5_132_0) := by
  refine ⟨(codeAt Try.prog (tn0 5) 5 132), 3, by kernel_rfl, ?_⟩
  intro S alts e S' h1 h2
  have h1 : sL5_132_0 S = some alts := h1
  unfold sL5_132_0 at h1
  split at h1
  · cases h1
    obtain ⟨hc0, rfl, rfl⟩ := pick_one h2
    exact ⟨0 + 40, (evPiece_code rfl).trans (lL5_132_0 0 _ _ _ _ _ _ _ _ _ _ _ _ _ _ _ _ (ok_val hc0))⟩
  · cases h1
def o22 : OrcT := o21
def t22 : TellT := ((5, 132), sL5_132_0) :: t21
abbrev tn22 : FuncId → TAn := mkTn base o22 t22
theorem ok22 : TnOk Try.prog tn22 (mkA base) dOk := by
  have h0 : TnOk Try.prog (mkTn base o21 t21) (mkA base) dOk := ok21
  have h1 := tn_tell h0 h0 (p := ((5, 132), sL5_132_0)) wL5_132_0
  exact h1
end Go.Proofs.Ytchgjjgdgbecmaa
set_option maxRecDepth 1000000
set_option linter.unusedVariables false
set_option maxHeartbeats 4000000
namespace Go.Proofs.Ytchgjjgdgbecmaa
open Go Go.AM Go.TM Go.Proofs
/-- queuelablaw35.DiskEach: the loop 16 -/
def L5_16_0 : Nat → Bool → Int → Int → Bool → (List Int) → Int → Int → (List (Int × (List Int))) → Int → Int → Int → (List Int) → (List (Int × (List Int))) → Option Bool
  | 0, _, _, _, _, _, _, _, _, _, _, _, _, _ => none
  | n + 1, x0, x1, x2, x3, x4, x5, x6, x7, x8, x9, x10, x11, x12 => (cond (decide (x9 < x8)) (cond (decide ((0 : Int) ≤ x9)) (cond (decide (x9 < (↑(List.length x7) : Int))) (cond (ok (L5_132_0 x0 x1 x2 x3 x4 x5 x6 x7 x8 x9 x10 x11 x12 (Prod.fst (List.getD x7 (Int.toNat x9) ((0 : Int), []))) (Prod.snd (List.getD x7 (Int.toNat x9) ((0 : Int), []))))) (L5_16_0 n (x0) (x1) (x2) (val (L5_132_0 x0 x1 x2 x3 x4 x5 x6 x7 x8 x9 x10 x11 x12 (Prod.fst (List.getD x7 (Int.toNat x9) ((0 : Int), []))) (Prod.snd (List.getD x7 (Int.toNat x9) ((0 : Int), []))))) (x4) (x5) (x6) (x7) (x8) (IntKind.wrap IntKind.i64 (x9 + (1 : Int))) (x10) (x11) (x12)) none) none) none) (some (x3)))
theorem qL5_16_0 (n : Nat) (x0 : Bool) (x1 : Int) (x2 : Int) (x3 : Bool) (x4 : (List Int)) (x5 : Int) (x6 : Int) (x7 : (List (Int × (List Int)))) (x8 : Int) (x9 : Int) (x10 : Int) (x11 : (List Int)) (x12 : (List (Int × (List Int)))) : L5_16_0 (n + 1) x0 x1 x2 x3 x4 x5 x6 x7 x8 x9 x10 x11 x12 = (cond (decide (x9 < x8)) (cond (decide ((0 : Int) ≤ x9)) (cond (decide (x9 < (↑(List.length x7) : Int))) (cond (ok (L5_132_0 x0 x1 x2 x3 x4 x5 x6 x7 x8 x9 x10 x11 x12 (Prod.fst (List.getD x7 (Int.toNat x9) ((0 : Int), []))) (Prod.snd (List.getD x7 (Int.toNat x9) ((0 : Int), []))))) (L5_16_0 n (x0) (x1) (x2) (val (L5_132_0 x0 x1 x2 x3 x4 x5 x6 x7 x8 x9 x10 x11 x12 (Prod.fst (List.getD x7 (Int.toNat x9) ((0 : Int), []))) (Prod.snd (List.getD x7 (Int.toNat x9) ((0 : Int), []))))) (x4) (x5) (x6) (x7) (x8) (IntKind.wrap IntKind.i64 (x9 + (1 : Int))) (x10) (x11) (x12)) none) none) none) (some (x3))) := by rfl
def xL5_16_0 (x0 : Bool) (x1 : Int) (x2 : Int) (x3 : Bool) (x4 : (List Int)) (x5 : Int) (x6 : Int) (x7 : (List (Int × (List Int)))) (x8 : Int) (x9 : Int) (x10 : Int) (x11 : (List Int)) (x12 : (List (Int × (List Int)))) : Bool → Ex × CS := fun r => ((.exit 2), { sl := [(4, .l 4 0), (9, .v (.sc (.bool (x0)))), (14, .v (.sc (.bool (r)))), (64, .v (.sc (.d 5 (.int .u8) (x4)))), (65, .v (.sc (.int .i64 (x5)))), (66, .v (.sc (.int .i64 (x6))))], lo := [(4, [.int .i64 (x10), .d 5 (.int .u8) (x11), .d 44 (.pair (.int .i64) (.list 5 (.int .u8))) (x12)])], h := [], n0 := 0 })
theorem bL5_16_0 (k : Nat) (cN : CS → Option (Ex × CS)) (cX : Ex → CS → Option (Ex × CS)) (x0 : Bool) (x1 : Int) (x2 : Int) (x3 : Bool) (x4 : (List Int)) (x5 : Int) (x6 : Int) (x7 : (List (Int × (List Int)))) (x8 : Int) (x9 : Int) (x10 : Int) (x11 : (List Int)) (x12 : (List (Int × (List Int)))) : loopBody Try.prog (mkTn base o22 t22 5) (TM.evF Try.prog (mkTn base o22 t22) dOk (k + 40)) dOk (k + 40) (codeAt Try.prog (tn0 5) 5 16) 2 16 { sl := [(4, .l 4 0), (9, .v (.sc (.bool (x0)))), (12, .v (.sc (.int .i64 (x1)))), (13, .v (.sc (.int .u8 (x2)))), (14, .v (.sc (.bool (x3)))), (64, .v (.sc (.d 5 (.int .u8) (x4)))), (65, .v (.sc (.int .i64 (x5)))), (66, .v (.sc (.int .i64 (x6)))), (79, .v (.sc (.d 44 (.pair (.int .i64) (.list 5 (.int .u8))) (x7)))), (80, .v (.sc (.int .i64 (x8)))), (81, .v (.sc (.int .i64 (x9))))], lo := [(4, [.int .i64 (x10), .d 5 (.int .u8) (x11), .d 44 (.pair (.int .i64) (.list 5 (.int .u8))) (x12)])], h := [], n0 := 0 } cN cX = (cond (decide (x9 < x8)) (cond (decide ((0 : Int) ≤ x9)) (cond (decide (x9 < (↑(List.length x7) : Int))) (cond (ok (L5_132_0 x0 x1 x2 x3 x4 x5 x6 x7 x8 x9 x10 x11 x12 (Prod.fst (List.getD x7 (Int.toNat x9) ((0 : Int), []))) (Prod.snd (List.getD x7 (Int.toNat x9) ((0 : Int), []))))) (cN { sl := [(4, .l 4 0), (9, .v (.sc (.bool (x0)))), (12, .v (.sc (.int .i64 (x1)))), (13, .v (.sc (.int .u8 (x2)))), (14, .v (.sc (.bool (val (L5_132_0 x0 x1 x2 x3 x4 x5 x6 x7 x8 x9 x10 x11 x12 (Prod.fst (List.getD x7 (Int.toNat x9) ((0 : Int), []))) (Prod.snd (List.getD x7 (Int.toNat x9) ((0 : Int), [])))))))), (64, .v (.sc (.d 5 (.int .u8) (x4)))), (65, .v (.sc (.int .i64 (x5)))), (66, .v (.sc (.int .i64 (x6)))), (79, .v (.sc (.d 44 (.pair (.int .i64) (.list 5 (.int .u8))) (x7)))), (80, .v (.sc (.int .i64 (x8)))), (81, .v (.sc (.int .i64 (IntKind.wrap IntKind.i64 (x9 + (1 : Int))))))], lo := [(4, [.int .i64 (x10), .d 5 (.int .u8) (x11), .d 44 (.pair (.int .i64) (.list 5 (.int .u8))) (x12)])], h := [], n0 := 0 }) none) none) none) (cX (.exit 2) { sl := [(4, .l 4 0), (9, .v (.sc (.bool (x0)))), (14, .v (.sc (.bool (x3)))), (64, .v (.sc (.d 5 (.int .u8) (x4)))), (65, .v (.sc (.int .i64 (x5)))), (66, .v (.sc (.int .i64 (x6))))], lo := [(4, [.int .i64 (x10), .d 5 (.int .u8) (x11), .d 44 (.pair (.int .i64) (.list 5 (.int .u8))) (x12)])], h := [], n0 := 0 })) := by kernel_rfl
theorem lL5_16_0 (k m : Nat) : ∀ (n : Nat) (x0 : Bool) (x1 : Int) (x2 : Int) (x3 : Bool) (x4 : (List Int)) (x5 : Int) (x6 : Int) (x7 : (List (Int × (List Int)))) (x8 : Int) (x9 : Int) (x10 : Int) (x11 : (List Int)) (x12 : (List (Int × (List Int)))) (r : Bool), L5_16_0 n x0 x1 x2 x3 x4 x5 x6 x7 x8 x9 x10 x11 x12 = some r → loopE Try.prog (mkTn base o22 t22 5) (TM.evF Try.prog (mkTn base o22 t22) dOk (k + 40)) dOk (k + 40) (codeAt Try.prog (tn0 5) 5 16) 2 16 (n + m) { sl := [(4, .l 4 0), (9, .v (.sc (.bool (x0)))), (12, .v (.sc (.int .i64 (x1)))), (13, .v (.sc (.int .u8 (x2)))), (14, .v (.sc (.bool (x3)))), (64, .v (.sc (.d 5 (.int .u8) (x4)))), (65, .v (.sc (.int .i64 (x5)))), (66, .v (.sc (.int .i64 (x6)))), (79, .v (.sc (.d 44 (.pair (.int .i64) (.list 5 (.int .u8))) (x7)))), (80, .v (.sc (.int .i64 (x8)))), (81, .v (.sc (.int .i64 (x9))))], lo := [(4, [.int .i64 (x10), .d 5 (.int .u8) (x11), .d 44 (.pair (.int .i64) (.list 5 (.int .u8))) (x12)])], h := [], n0 := 0 } = some (xL5_16_0 x0 x1 x2 x3 x4 x5 x6 x7 x8 x9 x10 x11 x12 r) := by
  intro n
  induction n with
  | zero => intro _ _ _ _ _ _ _ _ _ _ _ _ _ r h; cases h
  | succ n ih =>
    intro x0 x1 x2 x3 x4 x5 x6 x7 x8 x9 x10 x11 x12 r
    rw [show n + 1 + m = n + m + 1 by omega, loop_step, bL5_16_0, qL5_16_0]
    cases (decide (x9 < x8)) with
    | true =>
      cases (decide ((0 : Int) ≤ x9)) with
      | true =>
        cases (decide (x9 < (↑(List.length x7) : Int))) with
        | true =>
          cases (ok (L5_132_0 x0 x1 x2 x3 x4 x5 x6 x7 x8 x9 x10 x11 x12 (Prod.fst (List.getD x7 (Int.toNat x9) ((0 : Int), []))) (Prod.snd (List.getD x7 (Int.toNat x9) ((0 : Int), []))))) with
          | true =>
            exact ih _ _ _ _ _ _ _ _ _ _ _ _ _ r
          | false =>
            intro h; cases h
        | false =>
          intro h; cases h
      | false =>
        intro h; cases h
    | false =>
      intro h; cases h; rfl
def sL5_16_0 : TellS := fun S => match S with
  | { sl := [(4, .l 4 0), (9, .v (.sc (.bool (x0)))), (12, .v (.sc (.int .i64 (x1)))), (13, .v (.sc (.int .u8 (x2)))), (14, .v (.sc (.bool (x3)))), (64, .v (.sc (.d 5 (.int .u8) (x4)))), (65, .v (.sc (.int .i64 (x5)))), (66, .v (.sc (.int .i64 (x6)))), (79, .v (.sc (.d 44 (.pair (.int .i64) (.list 5 (.int .u8))) (x7)))), (80, .v (.sc (.int .i64 (x8)))), (81, .v (.sc (.int .i64 (x9))))], lo := [(4, [.int .i64 (x10), .d 5 (.int .u8) (x11), .d 44 (.pair (.int .i64) (.list 5 (.int .u8))) (x12)])], h := [], n0 := 0 } => some [(ok (L5_16_0 FU x0 x1 x2 x3 x4 x5 x6 x7 x8 x9 x10 x11 x12), (.exit 2), { sl := [(4, .l 4 0), (9, .v (.sc (.bool (x0)))), (14, .v (.sc (.bool ((val (L5_16_0 FU x0 x1 x2 x3 x4 x5 x6 x7 x8 x9 x10 x11 x12)))))), (64, .v (.sc (.d 5 (.int .u8) (x4)))), (65, .v (.sc (.int .i64 (x5)))), (66, .v (.sc (.int .i64 (x6))))], lo := [(4, [.int .i64 (x10), .d 5 (.int .u8) (x11), .d 44 (.pair (.int .i64) (.list 5 (.int .u8))) (x12)])], h := [], n0 := 0 })]
  | _ => none
theorem wL5_16_0 : NewTell Try.prog dOk base o22 t22 ((5, 16), sL5_16_0) := by
  refine ⟨.loop (codeAt Try.prog (tn0 5) 5 16), 2, by kernel_rfl, ?_⟩
  intro S alts e S' h1 h2
  have h1 : sL5_16_0 S = some alts := h1
  unfold sL5_16_0 at h1
  split at h1
  · cases h1
    obtain ⟨hc0, rfl, rfl⟩ := pick_one h2
    exact ⟨FU + 40, (evPiece_loop rfl).trans (lL5_16_0 FU 40 FU _ _ _ _ _ _ _ _ _ _ _ _ _ _ (ok_val hc0))⟩
  · cases h1
def o23 : OrcT := o22
def t23 : TellT := ((5, 16), sL5_16_0) :: t22
abbrev tn23 : FuncId → TAn := mkTn base o23 t23
theorem ok23 : TnOk Try.prog tn23 (mkA base) dOk := by
  have h0 : TnOk Try.prog (mkTn base o22 t22) (mkA base) dOk := ok22
  have h1 := tn_tell h0 h0 (p := ((5, 16), sL5_16_0)) wL5_16_0
  exact h1
end Go.Proofs.Ytchgjjgdgbecmaa
set_option maxRecDepth 1000000
set_option linter.unusedVariables false
set_option maxHeartbeats 4000000
namespace Go.Proofs.Ytchgjjgdgbecmaa
open Go Go.AM Go.TM Go.Proofs
/-- queuelablaw35.DiskEach: the piece 108 -/
def L5_108_0 (x0 : Bool) (x1 : Int) (x2 : Int) (x3 : Bool) (x4 : (List Int)) (x5 : Int) (x6 : Int) (x7 : Int) (x8 : (List Int)) (x9 : (List (Int × (List Int)))) : Option (Bool ⊕ Unit) := (cond (ok (L5_16_0 FU x0 x1 x2 x3 x4 x5 x6 x9 (↑(List.length x9) : Int) (0 : Int) x7 x8 x9)) (cond (!val (L5_16_0 FU x0 x1 x2 x3 x4 x5 x6 x9 (↑(List.length x9) : Int) (0 : Int) x7 x8 x9)) (some (.inl (false))) (some (.inr ()))) none)
def xL5_108_0 (x0 : Bool) (x1 : Int) (x2 : Int) (x3 : Bool) (x4 : (List Int)) (x5 : Int) (x6 : Int) (x7 : Int) (x8 : (List Int)) (x9 : (List (Int × (List Int)))) : (Bool ⊕ Unit) → Ex × CS := fun r => match r with | .inl a0 => (.ret, { sl := [(8, .v (.sc (.bool (a0))))], lo := [], h := [], n0 := 0 }) | .inr b0 => (.normal, { sl := [(4, .l 4 0), (9, .v (.sc (.bool (x0)))), (64, .v (.sc (.d 5 (.int .u8) (x4)))), (65, .v (.sc (.int .i64 (x5)))), (66, .v (.sc (.int .i64 (x6))))], lo := [(4, [.int .i64 (x7), .d 5 (.int .u8) (x8), .d 44 (.pair (.int .i64) (.list 5 (.int .u8))) (x9)])], h := [], n0 := 0 })
theorem bL5_108_0 (k : Nat) (cX : Ex → CS → Option (Ex × CS)) (x0 : Bool) (x1 : Int) (x2 : Int) (x3 : Bool) (x4 : (List Int)) (x5 : Int) (x6 : Int) (x7 : Int) (x8 : (List Int)) (x9 : (List (Int × (List Int)))) : pieceBody Try.prog (mkTn base o23 t23 5) (TM.evF Try.prog (mkTn base o23 t23) dOk (k + 40)) dOk (k + 40) (codeAt Try.prog (tn0 5) 5 108) 1 108 { sl := [(4, .l 4 0), (9, .v (.sc (.bool (x0)))), (12, .v (.sc (.int .i64 (x1)))), (13, .v (.sc (.int .u8 (x2)))), (14, .v (.sc (.bool (x3)))), (64, .v (.sc (.d 5 (.int .u8) (x4)))), (65, .v (.sc (.int .i64 (x5)))), (66, .v (.sc (.int .i64 (x6))))], lo := [(4, [.int .i64 (x7), .d 5 (.int .u8) (x8), .d 44 (.pair (.int .i64) (.list 5 (.int .u8))) (x9)])], h := [], n0 := 0 } cX = (cond (ok (L5_16_0 FU x0 x1 x2 x3 x4 x5 x6 x9 (↑(List.length x9) : Int) (0 : Int) x7 x8 x9)) (cond (!val (L5_16_0 FU x0 x1 x2 x3 x4 x5 x6 x9 (↑(List.length x9) : Int) (0 : Int) x7 x8 x9)) (cX .ret { sl := [(8, .v (.sc (.bool (false))))], lo := [], h := [], n0 := 0 }) (cX .normal { sl := [(4, .l 4 0), (9, .v (.sc (.bool (x0)))), (64, .v (.sc (.d 5 (.int .u8) (x4)))), (65, .v (.sc (.int .i64 (x5)))), (66, .v (.sc (.int .i64 (x6))))], lo := [(4, [.int .i64 (x7), .d 5 (.int .u8) (x8), .d 44 (.pair (.int .i64) (.list 5 (.int .u8))) (x9)])], h := [], n0 := 0 })) none) := by kernel_rfl
theorem lL5_108_0 (k : Nat) (x0 : Bool) (x1 : Int) (x2 : Int) (x3 : Bool) (x4 : (List Int)) (x5 : Int) (x6 : Int) (x7 : Int) (x8 : (List Int)) (x9 : (List (Int × (List Int)))) (r : (Bool ⊕ Unit)) : L5_108_0 x0 x1 x2 x3 x4 x5 x6 x7 x8 x9 = some r → pieceBody Try.prog (mkTn base o23 t23 5) (TM.evF Try.prog (mkTn base o23 t23) dOk (k + 40)) dOk (k + 40) (codeAt Try.prog (tn0 5) 5 108) 1 108 { sl := [(4, .l 4 0), (9, .v (.sc (.bool (x0)))), (12, .v (.sc (.int .i64 (x1)))), (13, .v (.sc (.int .u8 (x2)))), (14, .v (.sc (.bool (x3)))), (64, .v (.sc (.d 5 (.int .u8) (x4)))), (65, .v (.sc (.int .i64 (x5)))), (66, .v (.sc (.int .i64 (x6))))], lo := [(4, [.int .i64 (x7), .d 5 (.int .u8) (x8), .d 44 (.pair (.int .i64) (.list 5 (.int .u8))) (x9)])], h := [], n0 := 0 } (fun e s => some (e, s)) = some (xL5_108_0 x0 x1 x2 x3 x4 x5 x6 x7 x8 x9 r) := by
  rw [bL5_108_0]
  unfold L5_108_0
  cases (ok (L5_16_0 FU x0 x1 x2 x3 x4 x5 x6 x9 (↑(List.length x9) : Int) (0 : Int) x7 x8 x9)) with
  | true =>
    cases (!val (L5_16_0 FU x0 x1 x2 x3 x4 x5 x6 x9 (↑(List.length x9) : Int) (0 : Int) x7 x8 x9)) with
    | true =>
      intro h; cases h; rfl
    | false =>
      intro h; cases h; rfl
  | false =>
    intro h; cases h
def sL5_108_0 : TellS := fun S => match S with
  | { sl := [(4, .l 4 0), (9, .v (.sc (.bool (x0)))), (12, .v (.sc (.int .i64 (x1)))), (13, .v (.sc (.int .u8 (x2)))), (14, .v (.sc (.bool (x3)))), (64, .v (.sc (.d 5 (.int .u8) (x4)))), (65, .v (.sc (.int .i64 (x5)))), (66, .v (.sc (.int .i64 (x6))))], lo := [(4, [.int .i64 (x7), .d 5 (.int .u8) (x8), .d 44 (.pair (.int .i64) (.list 5 (.int .u8))) (x9)])], h := [], n0 := 0 } => some [(isL (L5_108_0 x0 x1 x2 x3 x4 x5 x6 x7 x8 x9), .ret, { sl := [(8, .v (.sc (.bool ((getL (L5_108_0 x0 x1 x2 x3 x4 x5 x6 x7 x8 x9))))))], lo := [], h := [], n0 := 0 }), (ok (getR (L5_108_0 x0 x1 x2 x3 x4 x5 x6 x7 x8 x9)), .normal, { sl := [(4, .l 4 0), (9, .v (.sc (.bool (x0)))), (64, .v (.sc (.d 5 (.int .u8) (x4)))), (65, .v (.sc (.int .i64 (x5)))), (66, .v (.sc (.int .i64 (x6))))], lo := [(4, [.int .i64 (x7), .d 5 (.int .u8) (x8), .d 44 (.pair (.int .i64) (.list 5 (.int .u8))) (x9)])], h := [], n0 := 0 })]
  | _ => none
theorem wL5_108_0 : NewTell Try.prog dOk base o23 t23 ((5, 108), sL5_108_0) := by
  refine ⟨(codeAt Try.prog (tn0 5) 5 108), 1, by kernel_rfl, ?_⟩
  intro S alts e S' h1 h2
  have h1 : sL5_108_0 S = some alts := h1
  unfold sL5_108_0 at h1
  split at h1
  · cases h1
    rcases pick_cons h2 with ⟨hc0, rfl, rfl⟩ | h2
    · exact ⟨0 + 40, (evPiece_code rfl).trans (lL5_108_0 0 _ _ _ _ _ _ _ _ _ _ _ (isL_val hc0))⟩
    obtain ⟨hc1, rfl, rfl⟩ := pick_one h2
    exact ⟨0 + 40, (evPiece_code rfl).trans (lL5_108_0 0 _ _ _ _ _ _ _ _ _ _ _ (getR_val (ok_val hc1)))⟩
  · cases h1
def o24 : OrcT := o23
def t24 : TellT := ((5, 108), sL5_108_0) :: t23
abbrev tn24 : FuncId → TAn := mkTn base o24 t24
theorem ok24 : TnOk Try.prog tn24 (mkA base) dOk := by
  have h0 : TnOk Try.prog (mkTn base o23 t23) (mkA base) dOk := ok23
  have h1 := tn_tell h0 h0 (p := ((5, 108), sL5_108_0)) wL5_108_0
  exact h1
end Go.Proofs.Ytchgjjgdgbecmaa
set_option maxRecDepth 1000000
set_option linter.unusedVariables false
set_option maxHeartbeats 4000000
namespace Go.Proofs.Ytchgjjgdgbecmaa
open Go Go.AM Go.TM Go.Proofs
/-- queuelablaw35.DiskEach: the loop 0 -/
def L5_0_0 : Nat → Bool → (List Int) → Int → Int → Int → (List Int) → (List (Int × (List Int))) → Option (Bool ⊕ Unit)
  | 0, _, _, _, _, _, _, _ => none
  | n + 1, x0, x1, x2, x3, x4, x5, x6 => (cond (decide (x3 < x2)) (cond (decide ((0 : Int) ≤ x3)) (cond (decide (x3 < (↑(List.length x1) : Int))) (cond (decide (x3 < (↑(List.length x5) : Int))) (cond (isL (L5_108_0 x0 x3 (List.getD x1 (Int.toNat x3) (0 : Int)) (List.getD x1 (Int.toNat x3) (0 : Int) == List.getD x5 (Int.toNat x3) (0 : Int)) x1 x2 x3 x4 x5 x6)) (some (.inl (getL (L5_108_0 x0 x3 (List.getD x1 (Int.toNat x3) (0 : Int)) (List.getD x1 (Int.toNat x3) (0 : Int) == List.getD x5 (Int.toNat x3) (0 : Int)) x1 x2 x3 x4 x5 x6)))) (cond (ok (getR (L5_108_0 x0 x3 (List.getD x1 (Int.toNat x3) (0 : Int)) (List.getD x1 (Int.toNat x3) (0 : Int) == List.getD x5 (Int.toNat x3) (0 : Int)) x1 x2 x3 x4 x5 x6))) (L5_0_0 n (x0) (x1) (x2) (IntKind.wrap IntKind.i64 (x3 + (1 : Int))) (x4) (x5) (x6)) none)) none) none) none) (some (.inr ())))
theorem qL5_0_0 (n : Nat) (x0 : Bool) (x1 : (List Int)) (x2 : Int) (x3 : Int) (x4 : Int) (x5 : (List Int)) (x6 : (List (Int × (List Int)))) : L5_0_0 (n + 1) x0 x1 x2 x3 x4 x5 x6 = (cond (decide (x3 < x2)) (cond (decide ((0 : Int) ≤ x3)) (cond (decide (x3 < (↑(List.length x1) : Int))) (cond (decide (x3 < (↑(List.length x5) : Int))) (cond (isL (L5_108_0 x0 x3 (List.getD x1 (Int.toNat x3) (0 : Int)) (List.getD x1 (Int.toNat x3) (0 : Int) == List.getD x5 (Int.toNat x3) (0 : Int)) x1 x2 x3 x4 x5 x6)) (some (.inl (getL (L5_108_0 x0 x3 (List.getD x1 (Int.toNat x3) (0 : Int)) (List.getD x1 (Int.toNat x3) (0 : Int) == List.getD x5 (Int.toNat x3) (0 : Int)) x1 x2 x3 x4 x5 x6)))) (cond (ok (getR (L5_108_0 x0 x3 (List.getD x1 (Int.toNat x3) (0 : Int)) (List.getD x1 (Int.toNat x3) (0 : Int) == List.getD x5 (Int.toNat x3) (0 : Int)) x1 x2 x3 x4 x5 x6))) (L5_0_0 n (x0) (x1) (x2) (IntKind.wrap IntKind.i64 (x3 + (1 : Int))) (x4) (x5) (x6)) none)) none) none) none) (some (.inr ()))) := by rfl
def xL5_0_0 (x0 : Bool) (x1 : (List Int)) (x2 : Int) (x3 : Int) (x4 : Int) (x5 : (List Int)) (x6 : (List (Int × (List Int)))) : (Bool ⊕ Unit) → Ex × CS := fun r => match r with | .inl a0 => (.ret, { sl := [(8, .v (.sc (.bool (a0))))], lo := [], h := [], n0 := 0 }) | .inr b0 => ((.exit 0), { sl := [(4, .l 4 0), (9, .v (.sc (.bool (x0))))], lo := [], h := [], n0 := 0 })
theorem bL5_0_0 (k : Nat) (cN : CS → Option (Ex × CS)) (cX : Ex → CS → Option (Ex × CS)) (x0 : Bool) (x1 : (List Int)) (x2 : Int) (x3 : Int) (x4 : Int) (x5 : (List Int)) (x6 : (List (Int × (List Int)))) : loopBody Try.prog (mkTn base o24 t24 5) (TM.evF Try.prog (mkTn base o24 t24) dOk (k + 40)) dOk (k + 40) (codeAt Try.prog (tn0 5) 5 0) 0 0 { sl := [(4, .l 4 0), (9, .v (.sc (.bool (x0)))), (64, .v (.sc (.d 5 (.int .u8) (x1)))), (65, .v (.sc (.int .i64 (x2)))), (66, .v (.sc (.int .i64 (x3))))], lo := [(4, [.int .i64 (x4), .d 5 (.int .u8) (x5), .d 44 (.pair (.int .i64) (.list 5 (.int .u8))) (x6)])], h := [], n0 := 0 } cN cX = (cond (decide (x3 < x2)) (cond (decide ((0 : Int) ≤ x3)) (cond (decide (x3 < (↑(List.length x1) : Int))) (cond (decide ((0 : Int) ≤ x3)) (cond (decide (x3 < (↑(List.length x5) : Int))) (cond (isL (L5_108_0 x0 x3 (List.getD x1 (Int.toNat x3) (0 : Int)) (List.getD x1 (Int.toNat x3) (0 : Int) == List.getD x5 (Int.toNat x3) (0 : Int)) x1 x2 x3 x4 x5 x6)) (cX .ret { sl := [(8, .v (.sc (.bool (getL (L5_108_0 x0 x3 (List.getD x1 (Int.toNat x3) (0 : Int)) (List.getD x1 (Int.toNat x3) (0 : Int) == List.getD x5 (Int.toNat x3) (0 : Int)) x1 x2 x3 x4 x5 x6)))))], lo := [], h := [], n0 := 0 }) (cond (ok (getR (L5_108_0 x0 x3 (List.getD x1 (Int.toNat x3) (0 : Int)) (List.getD x1 (Int.toNat x3) (0 : Int) == List.getD x5 (Int.toNat x3) (0 : Int)) x1 x2 x3 x4 x5 x6))) (cN { sl := [(4, .l 4 0), (9, .v (.sc (.bool (x0)))), (64, .v (.sc (.d 5 (.int .u8) (x1)))), (65, .v (.sc (.int .i64 (x2)))), (66, .v (.sc (.int .i64 (IntKind.wrap IntKind.i64 (x3 + (1 : Int))))))], lo := [(4, [.int .i64 (x4), .d 5 (.int .u8) (x5), .d 44 (.pair (.int .i64) (.list 5 (.int .u8))) (x6)])], h := [], n0 := 0 }) none)) none) none) none) none) (cX (.exit 0) { sl := [(4, .l 4 0), (9, .v (.sc (.bool (x0))))], lo := [], h := [], n0 := 0 })) := by kernel_rfl
theorem lL5_0_0 (k m : Nat) : ∀ (n : Nat) (x0 : Bool) (x1 : (List Int)) (x2 : Int) (x3 : Int) (x4 : Int) (x5 : (List Int)) (x6 : (List (Int × (List Int)))) (r : (Bool ⊕ Unit)), L5_0_0 n x0 x1 x2 x3 x4 x5 x6 = some r → loopE Try.prog (mkTn base o24 t24 5) (TM.evF Try.prog (mkTn base o24 t24) dOk (k + 40)) dOk (k + 40) (codeAt Try.prog (tn0 5) 5 0) 0 0 (n + m) { sl := [(4, .l 4 0), (9, .v (.sc (.bool (x0)))), (64, .v (.sc (.d 5 (.int .u8) (x1)))), (65, .v (.sc (.int .i64 (x2)))), (66, .v (.sc (.int .i64 (x3))))], lo := [(4, [.int .i64 (x4), .d 5 (.int .u8) (x5), .d 44 (.pair (.int .i64) (.list 5 (.int .u8))) (x6)])], h := [], n0 := 0 } = some (xL5_0_0 x0 x1 x2 x3 x4 x5 x6 r) := by
  intro n
  induction n with
  | zero => intro _ _ _ _ _ _ _ r h; cases h
  | succ n ih =>
    intro x0 x1 x2 x3 x4 x5 x6 r
    rw [show n + 1 + m = n + m + 1 by omega, loop_step, bL5_0_0, qL5_0_0]
    cases (decide (x3 < x2)) with
    | true =>
      cases (decide ((0 : Int) ≤ x3)) with
      | true =>
        cases (decide (x3 < (↑(List.length x1) : Int))) with
        | true =>
          cases (decide (x3 < (↑(List.length x5) : Int))) with
          | true =>
            cases (isL (L5_108_0 x0 x3 (List.getD x1 (Int.toNat x3) (0 : Int)) (List.getD x1 (Int.toNat x3) (0 : Int) == List.getD x5 (Int.toNat x3) (0 : Int)) x1 x2 x3 x4 x5 x6)) with
            | true =>
              intro h; cases h; rfl
            | false =>
              cases (ok (getR (L5_108_0 x0 x3 (List.getD x1 (Int.toNat x3) (0 : Int)) (List.getD x1 (Int.toNat x3) (0 : Int) == List.getD x5 (Int.toNat x3) (0 : Int)) x1 x2 x3 x4 x5 x6))) with
              | true =>
                exact ih _ _ _ _ _ _ _ r
              | false =>
                intro h; cases h
          | false =>
            intro h; cases h
        | false =>
          intro h; cases h
      | false =>
        intro h; cases h
    | false =>
      intro h; cases h; rfl
def sL5_0_0 : TellS := fun S => match S with
  | { sl := [(4, .l 4 0), (9, .v (.sc (.bool (x0)))), (64, .v (.sc (.d 5 (.int .u8) (x1)))), (65, .v (.sc (.int .i64 (x2)))), (66, .v (.sc (.int .i64 (x3))))], lo := [(4, [.int .i64 (x4), .d 5 (.int .u8) (x5), .d 44 (.pair (.int .i64) (.list 5 (.int .u8))) (x6)])], h := [], n0 := 0 } => some [(isL (L5_0_0 FU x0 x1 x2 x3 x4 x5 x6), .ret, { sl := [(8, .v (.sc (.bool ((getL (L5_0_0 FU x0 x1 x2 x3 x4 x5 x6))))))], lo := [], h := [], n0 := 0 }), (ok (getR (L5_0_0 FU x0 x1 x2 x3 x4 x5 x6)), (.exit 0), { sl := [(4, .l 4 0), (9, .v (.sc (.bool (x0))))], lo := [], h := [], n0 := 0 })]
  | _ => none
theorem wL5_0_0 : NewTell Try.prog dOk base o24 t24 ((5, 0), sL5_0_0) := by
  refine ⟨.loop (codeAt Try.prog (tn0 5) 5 0), 0, by kernel_rfl, ?_⟩
  intro S alts e S' h1 h2
  have h1 : sL5_0_0 S = some alts := h1
  unfold sL5_0_0 at h1
  split at h1
  · cases h1
    rcases pick_cons h2 with ⟨hc0, rfl, rfl⟩ | h2
    · exact ⟨FU + 40, (evPiece_loop rfl).trans (lL5_0_0 FU 40 FU _ _ _ _ _ _ _ _ (isL_val hc0))⟩
    obtain ⟨hc1, rfl, rfl⟩ := pick_one h2
    exact ⟨FU + 40, (evPiece_loop rfl).trans (lL5_0_0 FU 40 FU _ _ _ _ _ _ _ _ (getR_val (ok_val hc1)))⟩
  · cases h1
def o25 : OrcT := o24
def t25 : TellT := ((5, 0), sL5_0_0) :: t24
abbrev tn25 : FuncId → TAn := mkTn base o25 t25
theorem ok25 : TnOk Try.prog tn25 (mkA base) dOk := by
  have h0 : TnOk Try.prog (mkTn base o24 t24) (mkA base) dOk := ok24
  have h1 := tn_tell h0 h0 (p := ((5, 0), sL5_0_0)) wL5_0_0
  exact h1
end Go.Proofs.Ytchgjjgdgbecmaa
set_option maxRecDepth 1000000
set_option linter.unusedVariables false
set_option maxHeartbeats 4000000
namespace Go.Proofs.Ytchgjjgdgbecmaa
open Go Go.AM Go.TM Go.Proofs
/-- queuelablaw35.DiskEach: the piece 76 -/
def L5_76_0 (x0 : Bool) (x1 : Int) (x2 : (List Int)) (x3 : (List (Int × (List Int)))) (x4 : Int) (x5 : (List Int)) (x6 : (List (Int × (List Int)))) : Option Bool := (cond (isL (L5_0_0 FU x0 x5 (↑(List.length x5) : Int) (0 : Int) x1 x2 x3)) (some (getL (L5_0_0 FU x0 x5 (↑(List.length x5) : Int) (0 : Int) x1 x2 x3))) (cond (ok (getR (L5_0_0 FU x0 x5 (↑(List.length x5) : Int) (0 : Int) x1 x2 x3))) (some (x0)) none))
def xL5_76_0 (x0 : Bool) (x1 : Int) (x2 : (List Int)) (x3 : (List (Int × (List Int)))) (x4 : Int) (x5 : (List Int)) (x6 : (List (Int × (List Int)))) : Bool → Ex × CS := fun r => (.ret, { sl := [(8, .v (.sc (.bool (r))))], lo := [], h := [], n0 := 0 })
theorem bL5_76_0 (k : Nat) (cX : Ex → CS → Option (Ex × CS)) (x0 : Bool) (x1 : Int) (x2 : (List Int)) (x3 : (List (Int × (List Int)))) (x4 : Int) (x5 : (List Int)) (x6 : (List (Int × (List Int)))) : pieceBody Try.prog (mkTn base o25 t25 5) (TM.evF Try.prog (mkTn base o25 t25) dOk (k + 40)) dOk (k + 40) (codeAt Try.prog (tn0 5) 5 76) 0 76 { sl := [(4, .l 4 0), (9, .v (.sc (.bool (x0)))), (10, .l 10 0)], lo := [(4, [.int .i64 (x1), .d 5 (.int .u8) (x2), .d 44 (.pair (.int .i64) (.list 5 (.int .u8))) (x3)]), (10, [.int .i64 (x4), .d 5 (.int .u8) (x5), .d 44 (.pair (.int .i64) (.list 5 (.int .u8))) (x6)])], h := [], n0 := 0 } cX = (cond (isL (L5_0_0 FU x0 x5 (↑(List.length x5) : Int) (0 : Int) x1 x2 x3)) (cX .ret { sl := [(8, .v (.sc (.bool (getL (L5_0_0 FU x0 x5 (↑(List.length x5) : Int) (0 : Int) x1 x2 x3)))))], lo := [], h := [], n0 := 0 }) (cond (ok (getR (L5_0_0 FU x0 x5 (↑(List.length x5) : Int) (0 : Int) x1 x2 x3))) (cX .ret { sl := [(8, .v (.sc (.bool (x0))))], lo := [], h := [], n0 := 0 }) none)) := by kernel_rfl
theorem lL5_76_0 (k : Nat) (x0 : Bool) (x1 : Int) (x2 : (List Int)) (x3 : (List (Int × (List Int)))) (x4 : Int) (x5 : (List Int)) (x6 : (List (Int × (List Int)))) (r : Bool) : L5_76_0 x0 x1 x2 x3 x4 x5 x6 = some r → pieceBody Try.prog (mkTn base o25 t25 5) (TM.evF Try.prog (mkTn base o25 t25) dOk (k + 40)) dOk (k + 40) (codeAt Try.prog (tn0 5) 5 76) 0 76 { sl := [(4, .l 4 0), (9, .v (.sc (.bool (x0)))), (10, .l 10 0)], lo := [(4, [.int .i64 (x1), .d 5 (.int .u8) (x2), .d 44 (.pair (.int .i64) (.list 5 (.int .u8))) (x3)]), (10, [.int .i64 (x4), .d 5 (.int .u8) (x5), .d 44 (.pair (.int .i64) (.list 5 (.int .u8))) (x6)])], h := [], n0 := 0 } (fun e s => some (e, s)) = some (xL5_76_0 x0 x1 x2 x3 x4 x5 x6 r) := by
  rw [bL5_76_0]
  unfold L5_76_0
  cases (isL (L5_0_0 FU x0 x5 (↑(List.length x5) : Int) (0 : Int) x1 x2 x3)) with
  | true =>
    intro h; cases h; rfl
  | false =>
    cases (ok (getR (L5_0_0 FU x0 x5 (↑(List.length x5) : Int) (0 : Int) x1 x2 x3))) with
    | true =>
      intro h; cases h; rfl
    | false =>
      intro h; cases h
def sL5_76_0 : TellS := fun S => match S with
  | { sl := [(4, .l 4 0), (9, .v (.sc (.bool (x0)))), (10, .l 10 0)], lo := [(4, [.int .i64 (x1), .d 5 (.int .u8) (x2), .d 44 (.pair (.int .i64) (.list 5 (.int .u8))) (x3)]), (10, [.int .i64 (x4), .d 5 (.int .u8) (x5), .d 44 (.pair (.int .i64) (.list 5 (.int .u8))) (x6)])], h := [], n0 := 0 } => some [(ok (L5_76_0 x0 x1 x2 x3 x4 x5 x6), .ret, { sl := [(8, .v (.sc (.bool ((val (L5_76_0 x0 x1 x2 x3 x4 x5 x6))))))], lo := [], h := [], n0 := 0 })]
  | _ => none
theorem wL5_76_0 : NewTell Try.prog dOk base o25 t25 ((5, 76), sL5_76_0) := by
  refine ⟨(codeAt Try.prog (tn0 5) 5 76), 0, by kernel_rfl, ?_⟩
  intro S alts e S' h1 h2
  have h1 : sL5_76_0 S = some alts := h1
  unfold sL5_76_0 at h1
  split at h1
  · cases h1
    obtain ⟨hc0, rfl, rfl⟩ := pick_one h2
    exact ⟨0 + 40, (evPiece_code rfl).trans (lL5_76_0 0 _ _ _ _ _ _ _ _ (ok_val hc0))⟩
  · cases h1
def o26 : OrcT := o25
def t26 : TellT := ((5, 76), sL5_76_0) :: t25
abbrev tn26 : FuncId → TAn := mkTn base o26 t26
theorem ok26 : TnOk Try.prog tn26 (mkA base) dOk := by
  have h0 : TnOk Try.prog (mkTn base o25 t25) (mkA base) dOk := ok25
  have h1 := tn_tell h0 h0 (p := ((5, 76), sL5_76_0)) wL5_76_0
  exact h1
end Go.Proofs.Ytchgjjgdgbecmaa
set_option maxRecDepth 1000000
set_option linter.unusedVariables false
set_option maxHeartbeats 4000000
namespace Go.Proofs.Ytchgjjgdgbecmaa
open Go Go.AM Go.TM Go.Proofs
/-- queuelablaw35.DiskEach: the piece 60 -/
def L5_60_0 (x0 : Bool) (x1 : Int) (x2 : (List Int)) (x3 : (List (Int × (List Int)))) (x4 : Int) (x5 : (List Int)) (x6 : (List (Int × (List Int)))) : Option Bool := (cond (x4 != x1) (some (false)) (cond ((↑(List.length x5) : Int) != (↑(List.length x2) : Int)) (some (false)) (cond ((↑(List.length x6) : Int) != (0 : Int)) (some (false)) (cond (ok (v24 x4 x5 x6)) (cond (!val (v24 x4 x5 x6)) (some (false)) (cond (ok (L5_76_0 x0 x1 x2 x3 x4 x5 x6)) (some (val (L5_76_0 x0 x1 x2 x3 x4 x5 x6))) none)) none))))
def xL5_60_0 (x0 : Bool) (x1 : Int) (x2 : (List Int)) (x3 : (List (Int × (List Int)))) (x4 : Int) (x5 : (List Int)) (x6 : (List (Int × (List Int)))) : Bool → Ex × CS := fun r => (.ret, { sl := [(8, .v (.sc (.bool (r))))], lo := [], h := [], n0 := 0 })
theorem bL5_60_0 (k : Nat) (cX : Ex → CS → Option (Ex × CS)) (x0 : Bool) (x1 : Int) (x2 : (List Int)) (x3 : (List (Int × (List Int)))) (x4 : Int) (x5 : (List Int)) (x6 : (List (Int × (List Int)))) : pieceBody Try.prog (mkTn base o26 t26 5) (TM.evF Try.prog (mkTn base o26 t26) dOk (k + 40)) dOk (k + 40) (codeAt Try.prog (tn0 5) 5 60) 0 60 { sl := [(4, .l 4 0), (9, .v (.sc (.bool (x0)))), (10, .l 10 0)], lo := [(4, [.int .i64 (x1), .d 5 (.int .u8) (x2), .d 44 (.pair (.int .i64) (.list 5 (.int .u8))) (x3)]), (10, [.int .i64 (x4), .d 5 (.int .u8) (x5), .d 44 (.pair (.int .i64) (.list 5 (.int .u8))) (x6)])], h := [], n0 := 0 } cX = (cond (x4 != x1) (cX .ret { sl := [(8, .v (.sc (.bool (false))))], lo := [], h := [], n0 := 0 }) (cond ((↑(List.length x5) : Int) != (↑(List.length x2) : Int)) (cX .ret { sl := [(8, .v (.sc (.bool (false))))], lo := [], h := [], n0 := 0 }) (cond ((↑(List.length x6) : Int) != (0 : Int)) (cX .ret { sl := [(8, .v (.sc (.bool (false))))], lo := [], h := [], n0 := 0 }) (cond (ok (v24 x4 x5 x6)) (cond (!val (v24 x4 x5 x6)) (cX .ret { sl := [(8, .v (.sc (.bool (false))))], lo := [], h := [], n0 := 0 }) (cond (ok (L5_76_0 x0 x1 x2 x3 x4 x5 x6)) (cX .ret { sl := [(8, .v (.sc (.bool (val (L5_76_0 x0 x1 x2 x3 x4 x5 x6)))))], lo := [], h := [], n0 := 0 }) none)) none)))) := by kernel_rfl
theorem lL5_60_0 (k : Nat) (x0 : Bool) (x1 : Int) (x2 : (List Int)) (x3 : (List (Int × (List Int)))) (x4 : Int) (x5 : (List Int)) (x6 : (List (Int × (List Int)))) (r : Bool) : L5_60_0 x0 x1 x2 x3 x4 x5 x6 = some r → pieceBody Try.prog (mkTn base o26 t26 5) (TM.evF Try.prog (mkTn base o26 t26) dOk (k + 40)) dOk (k + 40) (codeAt Try.prog (tn0 5) 5 60) 0 60 { sl := [(4, .l 4 0), (9, .v (.sc (.bool (x0)))), (10, .l 10 0)], lo := [(4, [.int .i64 (x1), .d 5 (.int .u8) (x2), .d 44 (.pair (.int .i64) (.list 5 (.int .u8))) (x3)]), (10, [.int .i64 (x4), .d 5 (.int .u8) (x5), .d 44 (.pair (.int .i64) (.list 5 (.int .u8))) (x6)])], h := [], n0 := 0 } (fun e s => some (e, s)) = some (xL5_60_0 x0 x1 x2 x3 x4 x5 x6 r) := by
  rw [bL5_60_0]
  unfold L5_60_0
  cases (x4 != x1) with
  | true =>
    intro h; cases h; rfl
  | false =>
    cases ((↑(List.length x5) : Int) != (↑(List.length x2) : Int)) with
    | true =>
      intro h; cases h; rfl
    | false =>
      cases ((↑(List.length x6) : Int) != (0 : Int)) with
      | true =>
        intro h; cases h; rfl
      | false =>
        cases (ok (v24 x4 x5 x6)) with
        | true =>
          cases (!val (v24 x4 x5 x6)) with
          | true =>
            intro h; cases h; rfl
          | false =>
            cases (ok (L5_76_0 x0 x1 x2 x3 x4 x5 x6)) with
            | true =>
              intro h; cases h; rfl
            | false =>
              intro h; cases h
        | false =>
          intro h; cases h
def sL5_60_0 : TellS := fun S => match S with
  | { sl := [(4, .l 4 0), (9, .v (.sc (.bool (x0)))), (10, .l 10 0)], lo := [(4, [.int .i64 (x1), .d 5 (.int .u8) (x2), .d 44 (.pair (.int .i64) (.list 5 (.int .u8))) (x3)]), (10, [.int .i64 (x4), .d 5 (.int .u8) (x5), .d 44 (.pair (.int .i64) (.list 5 (.int .u8))) (x6)])], h := [], n0 := 0 } => some [(ok (L5_60_0 x0 x1 x2 x3 x4 x5 x6), .ret, { sl := [(8, .v (.sc (.bool ((val (L5_60_0 x0 x1 x2 x3 x4 x5 x6))))))], lo := [], h := [], n0 := 0 })]
  | _ => none
theorem wL5_60_0 : NewTell Try.prog dOk base o26 t26 ((5, 60), sL5_60_0) := by
  refine ⟨(codeAt Try.prog (tn0 5) 5 60), 0, by kernel_rfl, ?_⟩
  intro S alts e S' h1 h2
  have h1 : sL5_60_0 S = some alts := h1
  unfold sL5_60_0 at h1
  split at h1
  · cases h1
    obtain ⟨hc0, rfl, rfl⟩ := pick_one h2
    exact ⟨0 + 40, (evPiece_code rfl).trans (lL5_60_0 0 _ _ _ _ _ _ _ _ (ok_val hc0))⟩
  · cases h1
def o27 : OrcT := o26
def t27 : TellT := ((5, 60), sL5_60_0) :: t26
abbrev tn27 : FuncId → TAn := mkTn base o27 t27
theorem ok27 : TnOk Try.prog tn27 (mkA base) dOk := by
  have h0 : TnOk Try.prog (mkTn base o26 t26) (mkA base) dOk := ok26
  have h1 := tn_tell h0 h0 (p := ((5, 60), sL5_60_0)) wL5_60_0
  exact h1
end Go.Proofs.Ytchgjjgdgbecmaa
set_option maxRecDepth 1000000
set_option linter.unusedVariables false
set_option maxHeartbeats 4000000
namespace Go.Proofs.Ytchgjjgdgbecmaa
open Go Go.AM Go.TM Go.Proofs
/-- queuelablaw35.DiskEach: the piece 36 -/
def L5_36_0 (x0 : (List Bool)) (x1 : Int) (x2 : Int) (x3 : Bool) (x4 : Int) (x5 : (List Int)) (x6 : (List (Int × (List Int)))) : Option Bool := (cond (ok (v16 x4 x5 x6 x0 x1 x2)) (cond (Prod.snd (Prod.snd (Prod.snd (val (v16 x4 x5 x6 x0 x1 x2)))) != (0 : Int)) (cond (x3) (cond (ok (v22 (Prod.fst (val (v16 x4 x5 x6 x0 x1 x2))) (Prod.fst (Prod.snd (val (v16 x4 x5 x6 x0 x1 x2)))) (Prod.fst (Prod.snd (Prod.snd (val (v16 x4 x5 x6 x0 x1 x2))))) (0 : Int) [] [])) (some (val (v22 (Prod.fst (val (v16 x4 x5 x6 x0 x1 x2))) (Prod.fst (Prod.snd (val (v16 x4 x5 x6 x0 x1 x2)))) (Prod.fst (Prod.snd (Prod.snd (val (v16 x4 x5 x6 x0 x1 x2))))) (0 : Int) [] []))) none) (some (false))) (cond (ok (L5_60_0 x3 x4 x5 x6 (Prod.fst (val (v16 x4 x5 x6 x0 x1 x2))) (Prod.fst (Prod.snd (val (v16 x4 x5 x6 x0 x1 x2)))) (Prod.fst (Prod.snd (Prod.snd (val (v16 x4 x5 x6 x0 x1 x2))))))) (some (val (L5_60_0 x3 x4 x5 x6 (Prod.fst (val (v16 x4 x5 x6 x0 x1 x2))) (Prod.fst (Prod.snd (val (v16 x4 x5 x6 x0 x1 x2)))) (Prod.fst (Prod.snd (Prod.snd (val (v16 x4 x5 x6 x0 x1 x2)))))))) none)) none)
def xL5_36_0 (x0 : (List Bool)) (x1 : Int) (x2 : Int) (x3 : Bool) (x4 : Int) (x5 : (List Int)) (x6 : (List (Int × (List Int)))) : Bool → Ex × CS := fun r => (.ret, { sl := [(8, .v (.sc (.bool (r))))], lo := [], h := [], n0 := 0 })
theorem bL5_36_0 (k : Nat) (cX : Ex → CS → Option (Ex × CS)) (x0 : (List Bool)) (x1 : Int) (x2 : Int) (x3 : Bool) (x4 : Int) (x5 : (List Int)) (x6 : (List (Int × (List Int)))) : pieceBody Try.prog (mkTn base o27 t27 5) (TM.evF Try.prog (mkTn base o27 t27) dOk (k + 40)) dOk (k + 40) (codeAt Try.prog (tn0 5) 5 36) 0 36 { sl := [(1, .v (.sc (.d 4 .bool (x0)))), (2, .v (.sc (.int .i64 (x1)))), (3, .v (.sc (.int .i64 (x2)))), (4, .l 4 0), (9, .v (.sc (.bool (x3))))], lo := [(4, [.int .i64 (x4), .d 5 (.int .u8) (x5), .d 44 (.pair (.int .i64) (.list 5 (.int .u8))) (x6)])], h := [], n0 := 0 } cX = (cond (ok (v16 x4 x5 x6 x0 x1 x2)) (cond (Prod.snd (Prod.snd (Prod.snd (val (v16 x4 x5 x6 x0 x1 x2)))) != (0 : Int)) (cond (x3) (cond (ok (v22 (Prod.fst (val (v16 x4 x5 x6 x0 x1 x2))) (Prod.fst (Prod.snd (val (v16 x4 x5 x6 x0 x1 x2)))) (Prod.fst (Prod.snd (Prod.snd (val (v16 x4 x5 x6 x0 x1 x2))))) (0 : Int) [] [])) (cX .ret { sl := [(8, .v (.sc (.bool (val (v22 (Prod.fst (val (v16 x4 x5 x6 x0 x1 x2))) (Prod.fst (Prod.snd (val (v16 x4 x5 x6 x0 x1 x2)))) (Prod.fst (Prod.snd (Prod.snd (val (v16 x4 x5 x6 x0 x1 x2))))) (0 : Int) [] [])))))], lo := [], h := [], n0 := 0 }) none) (cX .ret { sl := [(8, .v (.sc (.bool (false))))], lo := [], h := [], n0 := 0 })) (cond (ok (L5_60_0 x3 x4 x5 x6 (Prod.fst (val (v16 x4 x5 x6 x0 x1 x2))) (Prod.fst (Prod.snd (val (v16 x4 x5 x6 x0 x1 x2)))) (Prod.fst (Prod.snd (Prod.snd (val (v16 x4 x5 x6 x0 x1 x2))))))) (cX .ret { sl := [(8, .v (.sc (.bool (val (L5_60_0 x3 x4 x5 x6 (Prod.fst (val (v16 x4 x5 x6 x0 x1 x2))) (Prod.fst (Prod.snd (val (v16 x4 x5 x6 x0 x1 x2)))) (Prod.fst (Prod.snd (Prod.snd (val (v16 x4 x5 x6 x0 x1 x2))))))))))], lo := [], h := [], n0 := 0 }) none)) none) := by kernel_rfl
theorem lL5_36_0 (k : Nat) (x0 : (List Bool)) (x1 : Int) (x2 : Int) (x3 : Bool) (x4 : Int) (x5 : (List Int)) (x6 : (List (Int × (List Int)))) (r : Bool) : L5_36_0 x0 x1 x2 x3 x4 x5 x6 = some r → pieceBody Try.prog (mkTn base o27 t27 5) (TM.evF Try.prog (mkTn base o27 t27) dOk (k + 40)) dOk (k + 40) (codeAt Try.prog (tn0 5) 5 36) 0 36 { sl := [(1, .v (.sc (.d 4 .bool (x0)))), (2, .v (.sc (.int .i64 (x1)))), (3, .v (.sc (.int .i64 (x2)))), (4, .l 4 0), (9, .v (.sc (.bool (x3))))], lo := [(4, [.int .i64 (x4), .d 5 (.int .u8) (x5), .d 44 (.pair (.int .i64) (.list 5 (.int .u8))) (x6)])], h := [], n0 := 0 } (fun e s => some (e, s)) = some (xL5_36_0 x0 x1 x2 x3 x4 x5 x6 r) := by
  rw [bL5_36_0]
  unfold L5_36_0
  cases (ok (v16 x4 x5 x6 x0 x1 x2)) with
  | true =>
    cases (Prod.snd (Prod.snd (Prod.snd (val (v16 x4 x5 x6 x0 x1 x2)))) != (0 : Int)) with
    | true =>
      cases x3 with
      | true =>
        cases (ok (v22 (Prod.fst (val (v16 x4 x5 x6 x0 x1 x2))) (Prod.fst (Prod.snd (val (v16 x4 x5 x6 x0 x1 x2)))) (Prod.fst (Prod.snd (Prod.snd (val (v16 x4 x5 x6 x0 x1 x2))))) (0 : Int) [] [])) with
        | true =>
          intro h; cases h; rfl
        | false =>
          intro h; cases h
      | false =>
        intro h; cases h; rfl
    | false =>
      cases (ok (L5_60_0 x3 x4 x5 x6 (Prod.fst (val (v16 x4 x5 x6 x0 x1 x2))) (Prod.fst (Prod.snd (val (v16 x4 x5 x6 x0 x1 x2)))) (Prod.fst (Prod.snd (Prod.snd (val (v16 x4 x5 x6 x0 x1 x2))))))) with
      | true =>
        intro h; cases h; rfl
      | false =>
        intro h; cases h
  | false =>
    intro h; cases h
def sL5_36_0 : TellS := fun S => match S with
  | { sl := [(1, .v (.sc (.d 4 .bool (x0)))), (2, .v (.sc (.int .i64 (x1)))), (3, .v (.sc (.int .i64 (x2)))), (4, .l 4 0), (9, .v (.sc (.bool (x3))))], lo := [(4, [.int .i64 (x4), .d 5 (.int .u8) (x5), .d 44 (.pair (.int .i64) (.list 5 (.int .u8))) (x6)])], h := [], n0 := 0 } => some [(ok (L5_36_0 x0 x1 x2 x3 x4 x5 x6), .ret, { sl := [(8, .v (.sc (.bool ((val (L5_36_0 x0 x1 x2 x3 x4 x5 x6))))))], lo := [], h := [], n0 := 0 })]
  | _ => none
theorem wL5_36_0 : NewTell Try.prog dOk base o27 t27 ((5, 36), sL5_36_0) := by
  refine ⟨(codeAt Try.prog (tn0 5) 5 36), 0, by kernel_rfl, ?_⟩
  intro S alts e S' h1 h2
  have h1 : sL5_36_0 S = some alts := h1
  unfold sL5_36_0 at h1
  split at h1
  · cases h1
    obtain ⟨hc0, rfl, rfl⟩ := pick_one h2
    exact ⟨0 + 40, (evPiece_code rfl).trans (lL5_36_0 0 _ _ _ _ _ _ _ _ (ok_val hc0))⟩
  · cases h1
def o28 : OrcT := o27
def t28 : TellT := ((5, 36), sL5_36_0) :: t27
abbrev tn28 : FuncId → TAn := mkTn base o28 t28
theorem ok28 : TnOk Try.prog tn28 (mkA base) dOk := by
  have h0 : TnOk Try.prog (mkTn base o27 t27) (mkA base) dOk := ok27
  have h1 := tn_tell h0 h0 (p := ((5, 36), sL5_36_0)) wL5_36_0
  exact h1
end Go.Proofs.Ytchgjjgdgbecmaa
set_option maxRecDepth 1000000
set_option linter.unusedVariables false
set_option maxHeartbeats 4000000
namespace Go.Proofs.Ytchgjjgdgbecmaa
open Go Go.AM Go.TM Go.Proofs
/-- queuelablaw35.DiskEach -/
def v5 (x0 : Int) (x1 : (List Int)) (x2 : (List (Int × (List Int)))) (x3 : (List Bool)) (x4 : Int) (x5 : Int) : Option Bool := (cond (ok (v26 x0 x1 x2)) (cond (!val (v26 x0 x1 x2)) (some (true)) (cond (ok (L5_36_0 x3 x4 x5 (val v10) x0 x1 x2)) (some (val (L5_36_0 x3 x4 x5 (val v10) x0 x1 x2))) none)) none)
theorem ev5 (x0 : Int) (x1 : (List Int)) (x2 : (List (Int × (List Int)))) (x3 : (List Bool)) (x4 : Int) (x5 : Int) : fnBody Try.prog (mkTn base o28 t28 5) (TM.evF Try.prog (mkTn base o28 t28) dOk 40) dOk 40 5 [.agg [.int .i64 (x0), .d 5 (.int .u8) (x1), .d 44 (.pair (.int .i64) (.list 5 (.int .u8))) (x2)], .sc (.d 4 .bool (x3)), .sc (.int .i64 (x4)), .sc (.int .i64 (x5))] [] = (v5 x0 x1 x2 x3 x4 x5).bind fun r => some ([.sc (.bool (r))], []) := by
  have h : fnBody Try.prog (mkTn base o28 t28 5) (TM.evF Try.prog (mkTn base o28 t28) dOk 40) dOk 40 5 [.agg [.int .i64 (x0), .d 5 (.int .u8) (x1), .d 44 (.pair (.int .i64) (.list 5 (.int .u8))) (x2)], .sc (.d 4 .bool (x3)), .sc (.int .i64 (x4)), .sc (.int .i64 (x5))] [] = (cond (ok (v26 x0 x1 x2)) (cond (!val (v26 x0 x1 x2)) (some ([.sc (.bool (true))], [])) (cond (ok (L5_36_0 x3 x4 x5 (val v10) x0 x1 x2)) (some ([.sc (.bool (val (L5_36_0 x3 x4 x5 (val v10) x0 x1 x2)))], [])) none)) none) := by kernel_rfl
  rw [h]
  unfold v5
  cases (ok (v26 x0 x1 x2)) with
  | true =>
    cases (!val (v26 x0 x1 x2)) with
    | true =>
      rfl
    | false =>
      cases (ok (L5_36_0 x3 x4 x5 (val v10) x0 x1 x2)) with
      | true =>
        rfl
      | false =>
        rfl
  | false =>
    rfl
def sv5 : OrcS := fun al H => match al, H with
  | [.agg [.int .i64 (x0), .d 5 (.int .u8) (x1), .d 44 (.pair (.int .i64) (.list 5 (.int .u8))) (x2)], .sc (.d 4 .bool (x3)), .sc (.int .i64 (x4)), .sc (.int .i64 (x5))], [] => some (ok (v5 x0 x1 x2 x3 x4 x5), [.sc (.bool ((val (v5 x0 x1 x2 x3 x4 x5))))], [])
  | _, _ => none
theorem wv5 : NewOrc Try.prog dOk base o28 t28 (5, sv5) := by
  intro al H q hq hq1
  have hq : sv5 al H = some q := hq
  unfold sv5 at hq
  split at hq
  · cases hq
    exact ⟨41, (ev5 _ _ _ _ _ _).trans (ok_bind hq1)⟩
  · cases hq
def o29 : OrcT := (5, sv5) :: o28
def t29 : TellT := t28
abbrev tn29 : FuncId → TAn := mkTn base o29 t29
theorem ok29 : TnOk Try.prog tn29 (mkA base) dOk := by
  have h0 : TnOk Try.prog (mkTn base o28 t28) (mkA base) dOk := ok28
  have h1 := tn_orc h0 h0 (p := (5, sv5)) wv5
  exact h1
end Go.Proofs.Ytchgjjgdgbecmaa
set_option maxRecDepth 1000000
set_option linter.unusedVariables false
set_option maxHeartbeats 4000000
namespace Go.Proofs.Ytchgjjgdgbecmaa
open Go Go.AM Go.TM Go.Proofs
/-- queuelablaw35.part -/
def v28 (x0 : Int) (x1 : (List Int)) (x2 : (List (Int × (List Int)))) (x3 : Int) : Option (List Int) := (cond (decide (x0 < (1 : Int))) (some ([])) (cond (decide (x3 < (0 : Int))) (some ([])) (cond (decide (IntKind.wrap IntKind.i64 (IntKind.wrap IntKind.i64 (x3 + (1 : Int)) * x0) > (↑(List.length x1) : Int))) (some ([])) (cond (decide ((0 : Int) ≤ IntKind.wrap IntKind.i64 (x3 * x0))) (cond (decide ((0 : Int) ≤ IntKind.wrap IntKind.i64 (IntKind.wrap IntKind.i64 (x3 + (1 : Int)) * x0))) (cond (decide (Int.toNat (IntKind.wrap IntKind.i64 (x3 * x0)) ≤ Int.toNat (IntKind.wrap IntKind.i64 (IntKind.wrap IntKind.i64 (x3 + (1 : Int)) * x0)))) (cond (decide (Int.toNat (IntKind.wrap IntKind.i64 (IntKind.wrap IntKind.i64 (x3 + (1 : Int)) * x0)) ≤ Int.toNat (IntKind.wrap IntKind.i64 (IntKind.wrap IntKind.i64 (x3 + (1 : Int)) * x0)))) (cond (decide (Int.toNat (IntKind.wrap IntKind.i64 (IntKind.wrap IntKind.i64 (x3 + (1 : Int)) * x0)) ≤ List.length x1)) (some (List.drop (Int.toNat (IntKind.wrap IntKind.i64 (x3 * x0))) (List.take (Int.toNat (IntKind.wrap IntKind.i64 (IntKind.wrap IntKind.i64 (x3 + (1 : Int)) * x0))) x1))) none) none) none) none) none))))
theorem ev28 (x0 : Int) (x1 : (List Int)) (x2 : (List (Int × (List Int)))) (x3 : Int) : fnBody Try.prog (mkTn base o29 t29 28) (TM.evF Try.prog (mkTn base o29 t29) dOk 40) dOk 40 28 [.agg [.int .i64 (x0), .d 5 (.int .u8) (x1), .d 44 (.pair (.int .i64) (.list 5 (.int .u8))) (x2)], .sc (.int .i64 (x3))] [] = (v28 x0 x1 x2 x3).bind fun r => some ([.sc (.d 5 (.int .u8) (r))], []) := by
  have h : fnBody Try.prog (mkTn base o29 t29 28) (TM.evF Try.prog (mkTn base o29 t29) dOk 40) dOk 40 28 [.agg [.int .i64 (x0), .d 5 (.int .u8) (x1), .d 44 (.pair (.int .i64) (.list 5 (.int .u8))) (x2)], .sc (.int .i64 (x3))] [] = (cond (decide (x0 < (1 : Int))) (some ([.sc (.d 5 (.int .u8) ([]))], [])) (cond (decide (x3 < (0 : Int))) (some ([.sc (.d 5 (.int .u8) ([]))], [])) (cond (decide (IntKind.wrap IntKind.i64 (IntKind.wrap IntKind.i64 (x3 + (1 : Int)) * x0) > (↑(List.length x1) : Int))) (some ([.sc (.d 5 (.int .u8) ([]))], [])) (cond (decide ((0 : Int) ≤ IntKind.wrap IntKind.i64 (x3 * x0))) (cond (decide ((0 : Int) ≤ IntKind.wrap IntKind.i64 (IntKind.wrap IntKind.i64 (x3 + (1 : Int)) * x0))) (cond (decide (Int.toNat (IntKind.wrap IntKind.i64 (x3 * x0)) ≤ Int.toNat (IntKind.wrap IntKind.i64 (IntKind.wrap IntKind.i64 (x3 + (1 : Int)) * x0)))) (cond (decide (Int.toNat (IntKind.wrap IntKind.i64 (IntKind.wrap IntKind.i64 (x3 + (1 : Int)) * x0)) ≤ Int.toNat (IntKind.wrap IntKind.i64 (IntKind.wrap IntKind.i64 (x3 + (1 : Int)) * x0)))) (cond (decide (Int.toNat (IntKind.wrap IntKind.i64 (IntKind.wrap IntKind.i64 (x3 + (1 : Int)) * x0)) ≤ List.length x1)) (some ([.sc (.d 5 (.int .u8) (List.drop (Int.toNat (IntKind.wrap IntKind.i64 (x3 * x0))) (List.take (Int.toNat (IntKind.wrap IntKind.i64 (IntKind.wrap IntKind.i64 (x3 + (1 : Int)) * x0))) x1)))], [])) none) none) none) none) none)))) := by kernel_rfl
  rw [h]
  unfold v28
  cases (decide (x0 < (1 : Int))) with
  | true =>
    rfl
  | false =>
    cases (decide (x3 < (0 : Int))) with
    | true =>
      rfl
    | false =>
      cases (decide (IntKind.wrap IntKind.i64 (IntKind.wrap IntKind.i64 (x3 + (1 : Int)) * x0) > (↑(List.length x1) : Int))) with
      | true =>
        rfl
      | false =>
        cases (decide ((0 : Int) ≤ IntKind.wrap IntKind.i64 (x3 * x0))) with
        | true =>
          cases (decide ((0 : Int) ≤ IntKind.wrap IntKind.i64 (IntKind.wrap IntKind.i64 (x3 + (1 : Int)) * x0))) with
          | true =>
            cases (decide (Int.toNat (IntKind.wrap IntKind.i64 (x3 * x0)) ≤ Int.toNat (IntKind.wrap IntKind.i64 (IntKind.wrap IntKind.i64 (x3 + (1 : Int)) * x0)))) with
            | true =>
              cases (decide (Int.toNat (IntKind.wrap IntKind.i64 (IntKind.wrap IntKind.i64 (x3 + (1 : Int)) * x0)) ≤ Int.toNat (IntKind.wrap IntKind.i64 (IntKind.wrap IntKind.i64 (x3 + (1 : Int)) * x0)))) with
              | true =>
                cases (decide (Int.toNat (IntKind.wrap IntKind.i64 (IntKind.wrap IntKind.i64 (x3 + (1 : Int)) * x0)) ≤ List.length x1)) with
                | true =>
                  rfl
                | false =>
                  rfl
              | false =>
                rfl
            | false =>
              rfl
          | false =>
            rfl
        | false =>
          rfl
def sv28 : OrcS := fun al H => match al, H with
  | [.agg [.int .i64 (x0), .d 5 (.int .u8) (x1), .d 44 (.pair (.int .i64) (.list 5 (.int .u8))) (x2)], .sc (.int .i64 (x3))], [] => some (ok (v28 x0 x1 x2 x3), [.sc (.d 5 (.int .u8) ((val (v28 x0 x1 x2 x3))))], [])
  | _, _ => none
theorem wv28 : NewOrc Try.prog dOk base o29 t29 (28, sv28) := by
  intro al H q hq hq1
  have hq : sv28 al H = some q := hq
  unfold sv28 at hq
  split at hq
  · cases hq
    exact ⟨41, (ev28 _ _ _ _).trans (ok_bind hq1)⟩
  · cases hq
def o30 : OrcT := (28, sv28) :: o29
def t30 : TellT := t29
abbrev tn30 : FuncId → TAn := mkTn base o30 t30
theorem ok30 : TnOk Try.prog tn30 (mkA base) dOk := by
  have h0 : TnOk Try.prog (mkTn base o29 t29) (mkA base) dOk := ok29
  have h1 := tn_orc h0 h0 (p := (28, sv28)) wv28
  exact h1
end Go.Proofs.Ytchgjjgdgbecmaa
set_option maxRecDepth 1000000
set_option linter.unusedVariables false
set_option maxHeartbeats 4000000
namespace Go.Proofs.Ytchgjjgdgbecmaa
open Go Go.AM Go.TM Go.Proofs
/-- queuelablaw35.DiskReads: the piece 156 -/
def L4_156_0 (x0 : (List Int)) (x1 : Bool) (x2 : Int) (x3 : Int) (x4 : Int) (x5 : (List Int)) (x6 : Int) (x7 : Int) (x8 : Int) (x9 : (List Int)) (x10 : (List (Int × (List Int)))) (x11 : Int) (x12 : (List Int)) (x13 : (List (Int × (List Int)))) (x14 : Int) (x15 : (List Int)) (x16 : (List (Int × (List Int)))) : Option (Bool ⊕ Unit) := (cond (ok (v18 x11 x12 x13 x4)) (cond (Prod.snd (val (v18 x11 x12 x13 x4)) != (0 : Int)) (some (.inl (false))) (cond (x4 == x2) (cond (ok (v23 (Prod.fst (val (v18 x11 x12 x13 x4))) x0)) (cond (!val (v23 (Prod.fst (val (v18 x11 x12 x13 x4))) x0)) (some (.inl (false))) (cond (x4 != x2) (cond (ok (v23 (Prod.fst (val (v18 x11 x12 x13 x4))) x5)) (cond (!val (v23 (Prod.fst (val (v18 x11 x12 x13 x4))) x5)) (some (.inl (false))) (some (.inr ()))) none) (some (.inr ())))) none) (cond (x4 != x2) (cond (ok (v23 (Prod.fst (val (v18 x11 x12 x13 x4))) x5)) (cond (!val (v23 (Prod.fst (val (v18 x11 x12 x13 x4))) x5)) (some (.inl (false))) (some (.inr ()))) none) (some (.inr ()))))) none)
def xL4_156_0 (x0 : (List Int)) (x1 : Bool) (x2 : Int) (x3 : Int) (x4 : Int) (x5 : (List Int)) (x6 : Int) (x7 : Int) (x8 : Int) (x9 : (List Int)) (x10 : (List (Int × (List Int)))) (x11 : Int) (x12 : (List Int)) (x13 : (List (Int × (List Int)))) (x14 : Int) (x15 : (List Int)) (x16 : (List (Int × (List Int)))) : (Bool ⊕ Unit) → Ex × CS := fun r => match r with | .inl a0 => (.ret, { sl := [(6, .v (.sc (.bool (a0))))], lo := [], h := [], n0 := 0 }) | .inr b0 => (.normal, { sl := [(2, .v (.sc (.d 5 (.int .u8) (x0)))), (3, .l 3 0), (7, .v (.sc (.bool (x1)))), (10, .v (.sc (.int .i64 (x2)))), (11, .l 11 0), (12, .v (.sc (.int .i64 (x3)))), (13, .l 13 0), (70, .v (.sc (.int .i64 (x6)))), (71, .v (.sc (.int .i64 (x7))))], lo := [(3, [.int .i64 (x8), .d 5 (.int .u8) (x9), .d 44 (.pair (.int .i64) (.list 5 (.int .u8))) (x10)]), (11, [.int .i64 (x11), .d 5 (.int .u8) (x12), .d 44 (.pair (.int .i64) (.list 5 (.int .u8))) (x13)]), (13, [.int .i64 (x14), .d 5 (.int .u8) (x15), .d 44 (.pair (.int .i64) (.list 5 (.int .u8))) (x16)])], h := [], n0 := 0 })
theorem bL4_156_0 (k : Nat) (cX : Ex → CS → Option (Ex × CS)) (x0 : (List Int)) (x1 : Bool) (x2 : Int) (x3 : Int) (x4 : Int) (x5 : (List Int)) (x6 : Int) (x7 : Int) (x8 : Int) (x9 : (List Int)) (x10 : (List (Int × (List Int)))) (x11 : Int) (x12 : (List Int)) (x13 : (List (Int × (List Int)))) (x14 : Int) (x15 : (List Int)) (x16 : (List (Int × (List Int)))) : pieceBody Try.prog (mkTn base o30 t30 4) (TM.evF Try.prog (mkTn base o30 t30) dOk (k + 40)) dOk (k + 40) (codeAt Try.prog (tn0 4) 4 156) 1 156 { sl := [(2, .v (.sc (.d 5 (.int .u8) (x0)))), (3, .l 3 0), (7, .v (.sc (.bool (x1)))), (10, .v (.sc (.int .i64 (x2)))), (11, .l 11 0), (12, .v (.sc (.int .i64 (x3)))), (13, .l 13 0), (15, .v (.sc (.int .i64 (x4)))), (16, .v (.sc (.d 5 (.int .u8) (x5)))), (70, .v (.sc (.int .i64 (x6)))), (71, .v (.sc (.int .i64 (x7))))], lo := [(3, [.int .i64 (x8), .d 5 (.int .u8) (x9), .d 44 (.pair (.int .i64) (.list 5 (.int .u8))) (x10)]), (11, [.int .i64 (x11), .d 5 (.int .u8) (x12), .d 44 (.pair (.int .i64) (.list 5 (.int .u8))) (x13)]), (13, [.int .i64 (x14), .d 5 (.int .u8) (x15), .d 44 (.pair (.int .i64) (.list 5 (.int .u8))) (x16)])], h := [], n0 := 0 } cX = (cond (ok (v18 x11 x12 x13 x4)) (cond (Prod.snd (val (v18 x11 x12 x13 x4)) != (0 : Int)) (cX .ret { sl := [(6, .v (.sc (.bool (false))))], lo := [], h := [], n0 := 0 }) (cond (x4 == x2) (cond (ok (v23 (Prod.fst (val (v18 x11 x12 x13 x4))) x0)) (cond (!val (v23 (Prod.fst (val (v18 x11 x12 x13 x4))) x0)) (cX .ret { sl := [(6, .v (.sc (.bool (false))))], lo := [], h := [], n0 := 0 }) (cond (x4 != x2) (cond (ok (v23 (Prod.fst (val (v18 x11 x12 x13 x4))) x5)) (cond (!val (v23 (Prod.fst (val (v18 x11 x12 x13 x4))) x5)) (cX .ret { sl := [(6, .v (.sc (.bool (false))))], lo := [], h := [], n0 := 0 }) (cX .normal { sl := [(2, .v (.sc (.d 5 (.int .u8) (x0)))), (3, .l 3 0), (7, .v (.sc (.bool (x1)))), (10, .v (.sc (.int .i64 (x2)))), (11, .l 11 0), (12, .v (.sc (.int .i64 (x3)))), (13, .l 13 0), (70, .v (.sc (.int .i64 (x6)))), (71, .v (.sc (.int .i64 (x7))))], lo := [(3, [.int .i64 (x8), .d 5 (.int .u8) (x9), .d 44 (.pair (.int .i64) (.list 5 (.int .u8))) (x10)]), (11, [.int .i64 (x11), .d 5 (.int .u8) (x12), .d 44 (.pair (.int .i64) (.list 5 (.int .u8))) (x13)]), (13, [.int .i64 (x14), .d 5 (.int .u8) (x15), .d 44 (.pair (.int .i64) (.list 5 (.int .u8))) (x16)])], h := [], n0 := 0 })) none) (cX .normal { sl := [(2, .v (.sc (.d 5 (.int .u8) (x0)))), (3, .l 3 0), (7, .v (.sc (.bool (x1)))), (10, .v (.sc (.int .i64 (x2)))), (11, .l 11 0), (12, .v (.sc (.int .i64 (x3)))), (13, .l 13 0), (70, .v (.sc (.int .i64 (x6)))), (71, .v (.sc (.int .i64 (x7))))], lo := [(3, [.int .i64 (x8), .d 5 (.int .u8) (x9), .d 44 (.pair (.int .i64) (.list 5 (.int .u8))) (x10)]), (11, [.int .i64 (x11), .d 5 (.int .u8) (x12), .d 44 (.pair (.int .i64) (.list 5 (.int .u8))) (x13)]), (13, [.int .i64 (x14), .d 5 (.int .u8) (x15), .d 44 (.pair (.int .i64) (.list 5 (.int .u8))) (x16)])], h := [], n0 := 0 }))) none) (cond (x4 != x2) (cond (ok (v23 (Prod.fst (val (v18 x11 x12 x13 x4))) x5)) (cond (!val (v23 (Prod.fst (val (v18 x11 x12 x13 x4))) x5)) (cX .ret { sl := [(6, .v (.sc (.bool (false))))], lo := [], h := [], n0 := 0 }) (cX .normal { sl := [(2, .v (.sc (.d 5 (.int .u8) (x0)))), (3, .l 3 0), (7, .v (.sc (.bool (x1)))), (10, .v (.sc (.int .i64 (x2)))), (11, .l 11 0), (12, .v (.sc (.int .i64 (x3)))), (13, .l 13 0), (70, .v (.sc (.int .i64 (x6)))), (71, .v (.sc (.int .i64 (x7))))], lo := [(3, [.int .i64 (x8), .d 5 (.int .u8) (x9), .d 44 (.pair (.int .i64) (.list 5 (.int .u8))) (x10)]), (11, [.int .i64 (x11), .d 5 (.int .u8) (x12), .d 44 (.pair (.int .i64) (.list 5 (.int .u8))) (x13)]), (13, [.int .i64 (x14), .d 5 (.int .u8) (x15), .d 44 (.pair (.int .i64) (.list 5 (.int .u8))) (x16)])], h := [], n0 := 0 })) none) (cX .normal { sl := [(2, .v (.sc (.d 5 (.int .u8) (x0)))), (3, .l 3 0), (7, .v (.sc (.bool (x1)))), (10, .v (.sc (.int .i64 (x2)))), (11, .l 11 0), (12, .v (.sc (.int .i64 (x3)))), (13, .l 13 0), (70, .v (.sc (.int .i64 (x6)))), (71, .v (.sc (.int .i64 (x7))))], lo := [(3, [.int .i64 (x8), .d 5 (.int .u8) (x9), .d 44 (.pair (.int .i64) (.list 5 (.int .u8))) (x10)]), (11, [.int .i64 (x11), .d 5 (.int .u8) (x12), .d 44 (.pair (.int .i64) (.list 5 (.int .u8))) (x13)]), (13, [.int .i64 (x14), .d 5 (.int .u8) (x15), .d 44 (.pair (.int .i64) (.list 5 (.int .u8))) (x16)])], h := [], n0 := 0 })))) none) := by kernel_rfl
theorem lL4_156_0 (k : Nat) (x0 : (List Int)) (x1 : Bool) (x2 : Int) (x3 : Int) (x4 : Int) (x5 : (List Int)) (x6 : Int) (x7 : Int) (x8 : Int) (x9 : (List Int)) (x10 : (List (Int × (List Int)))) (x11 : Int) (x12 : (List Int)) (x13 : (List (Int × (List Int)))) (x14 : Int) (x15 : (List Int)) (x16 : (List (Int × (List Int)))) (r : (Bool ⊕ Unit)) : L4_156_0 x0 x1 x2 x3 x4 x5 x6 x7 x8 x9 x10 x11 x12 x13 x14 x15 x16 = some r → pieceBody Try.prog (mkTn base o30 t30 4) (TM.evF Try.prog (mkTn base o30 t30) dOk (k + 40)) dOk (k + 40) (codeAt Try.prog (tn0 4) 4 156) 1 156 { sl := [(2, .v (.sc (.d 5 (.int .u8) (x0)))), (3, .l 3 0), (7, .v (.sc (.bool (x1)))), (10, .v (.sc (.int .i64 (x2)))), (11, .l 11 0), (12, .v (.sc (.int .i64 (x3)))), (13, .l 13 0), (15, .v (.sc (.int .i64 (x4)))), (16, .v (.sc (.d 5 (.int .u8) (x5)))), (70, .v (.sc (.int .i64 (x6)))), (71, .v (.sc (.int .i64 (x7))))], lo := [(3, [.int .i64 (x8), .d 5 (.int .u8) (x9), .d 44 (.pair (.int .i64) (.list 5 (.int .u8))) (x10)]), (11, [.int .i64 (x11), .d 5 (.int .u8) (x12), .d 44 (.pair (.int .i64) (.list 5 (.int .u8))) (x13)]), (13, [.int .i64 (x14), .d 5 (.int .u8) (x15), .d 44 (.pair (.int .i64) (.list 5 (.int .u8))) (x16)])], h := [], n0 := 0 } (fun e s => some (e, s)) = some (xL4_156_0 x0 x1 x2 x3 x4 x5 x6 x7 x8 x9 x10 x11 x12 x13 x14 x15 x16 r) := by
  rw [bL4_156_0]
  unfold L4_156_0
  cases (ok (v18 x11 x12 x13 x4)) with
  | true =>
    cases (Prod.snd (val (v18 x11 x12 x13 x4)) != (0 : Int)) with
    | true =>
      intro h; cases h; rfl
    | false =>
      cases (x4 == x2) with
      | true =>
        cases (ok (v23 (Prod.fst (val (v18 x11 x12 x13 x4))) x0)) with
        | true =>
          cases (!val (v23 (Prod.fst (val (v18 x11 x12 x13 x4))) x0)) with
          | true =>
            intro h; cases h; rfl
          | false =>
            cases (x4 != x2) with
            | true =>
              cases (ok (v23 (Prod.fst (val (v18 x11 x12 x13 x4))) x5)) with
              | true =>
                cases (!val (v23 (Prod.fst (val (v18 x11 x12 x13 x4))) x5)) with
                | true =>
                  intro h; cases h; rfl
                | false =>
                  intro h; cases h; rfl
              | false =>
                intro h; cases h
            | false =>
              intro h; cases h; rfl
        | false =>
          intro h; cases h
      | false =>
        cases (x4 != x2) with
        | true =>
          cases (ok (v23 (Prod.fst (val (v18 x11 x12 x13 x4))) x5)) with
          | true =>
            cases (!val (v23 (Prod.fst (val (v18 x11 x12 x13 x4))) x5)) with
            | true =>
              intro h; cases h; rfl
            | false =>
              intro h; cases h; rfl
          | false =>
            intro h; cases h
        | false =>
          intro h; cases h; rfl
  | false =>
    intro h; cases h
def sL4_156_0 : TellS := fun S => match S with
  | { sl := [(2, .v (.sc (.d 5 (.int .u8) (x0)))), (3, .l 3 0), (7, .v (.sc (.bool (x1)))), (10, .v (.sc (.int .i64 (x2)))), (11, .l 11 0), (12, .v (.sc (.int .i64 (x3)))), (13, .l 13 0), (15, .v (.sc (.int .i64 (x4)))), (16, .v (.sc (.d 5 (.int .u8) (x5)))), (70, .v (.sc (.int .i64 (x6)))), (71, .v (.sc (.int .i64 (x7))))], lo := [(3, [.int .i64 (x8), .d 5 (.int .u8) (x9), .d 44 (.pair (.int .i64) (.list 5 (.int .u8))) (x10)]), (11, [.int .i64 (x11), .d 5 (.int .u8) (x12), .d 44 (.pair (.int .i64) (.list 5 (.int .u8))) (x13)]), (13, [.int .i64 (x14), .d 5 (.int .u8) (x15), .d 44 (.pair (.int .i64) (.list 5 (.int .u8))) (x16)])], h := [], n0 := 0 } => some [(isL (L4_156_0 x0 x1 x2 x3 x4 x5 x6 x7 x8 x9 x10 x11 x12 x13 x14 x15 x16), .ret, { sl := [(6, .v (.sc (.bool ((getL (L4_156_0 x0 x1 x2 x3 x4 x5 x6 x7 x8 x9 x10 x11 x12 x13 x14 x15 x16))))))], lo := [], h := [], n0 := 0 }), (ok (getR (L4_156_0 x0 x1 x2 x3 x4 x5 x6 x7 x8 x9 x10 x11 x12 x13 x14 x15 x16)), .normal, { sl := [(2, .v (.sc (.d 5 (.int .u8) (x0)))), (3, .l 3 0), (7, .v (.sc (.bool (x1)))), (10, .v (.sc (.int .i64 (x2)))), (11, .l 11 0), (12, .v (.sc (.int .i64 (x3)))), (13, .l 13 0), (70, .v (.sc (.int .i64 (x6)))), (71, .v (.sc (.int .i64 (x7))))], lo := [(3, [.int .i64 (x8), .d 5 (.int .u8) (x9), .d 44 (.pair (.int .i64) (.list 5 (.int .u8))) (x10)]), (11, [.int .i64 (x11), .d 5 (.int .u8) (x12), .d 44 (.pair (.int .i64) (.list 5 (.int .u8))) (x13)]), (13, [.int .i64 (x14), .d 5 (.int .u8) (x15), .d 44 (.pair (.int .i64) (.list 5 (.int .u8))) (x16)])], h := [], n0 := 0 })]
  | _ => none
theorem wL4_156_0 : NewTell Try.prog dOk base o30 t30 ((4, 156), sL4_156_0) := by
  refine ⟨(codeAt Try.prog (tn0 4) 4 156), 1, by kernel_rfl, ?_⟩
  intro S alts e S' h1 h2
  have h1 : sL4_156_0 S = some alts := h1
  unfold sL4_156_0 at h1
  split at h1
  · cases h1
    rcases pick_cons h2 with ⟨hc0, rfl, rfl⟩ | h2
    · exact ⟨0 + 40, (evPiece_code rfl).trans (lL4_156_0 0 _ _ _ _ _ _ _ _ _ _ _ _ _ _ _ _ _ _ (isL_val hc0))⟩
    obtain ⟨hc1, rfl, rfl⟩ := pick_one h2
    exact ⟨0 + 40, (evPiece_code rfl).trans (lL4_156_0 0 _ _ _ _ _ _ _ _ _ _ _ _ _ _ _ _ _ _ (getR_val (ok_val hc1)))⟩
  · cases h1
def o31 : OrcT := o30
def t31 : TellT := ((4, 156), sL4_156_0) :: t30
abbrev tn31 : FuncId → TAn := mkTn base o31 t31
theorem ok31 : TnOk Try.prog tn31 (mkA base) dOk := by
  have h0 : TnOk Try.prog (mkTn base o30 t30) (mkA base) dOk := ok30
  have h1 := tn_tell h0 h0 (p := ((4, 156), sL4_156_0)) wL4_156_0
  exact h1
end Go.Proofs.Ytchgjjgdgbecmaa
set_option maxRecDepth 1000000
set_option linter.unusedVariables false
set_option maxHeartbeats 4000000
namespace Go.Proofs.Ytchgjjgdgbecmaa
open Go Go.AM Go.TM Go.Proofs
/-- queuelablaw35.DiskReads: the piece 116 -/
def L4_116_0 (x0 : (List Int)) (x1 : Bool) (x2 : Int) (x3 : Int) (x4 : Int) (x5 : Int) (x6 : Int) (x7 : Int) (x8 : (List Int)) (x9 : (List (Int × (List Int)))) (x10 : Int) (x11 : (List Int)) (x12 : (List (Int × (List Int)))) (x13 : Int) (x14 : (List Int)) (x15 : (List (Int × (List Int)))) : Option (Bool ⊕ (Unit ⊕ Unit)) := (cond (ok (v18 x7 x8 x9 x4)) (cond (ok (v18 x13 x14 x15 x4)) (cond (Prod.snd (val (v18 x7 x8 x9 x4)) != (0 : Int)) (some (.inl (false))) (cond (Prod.snd (val (v18 x13 x14 x15 x4)) != (0 : Int)) (some (.inl (false))) (cond (ok (v23 (Prod.fst (val (v18 x7 x8 x9 x4))) (Prod.fst (val (v18 x13 x14 x15 x4))))) (cond (!val (v23 (Prod.fst (val (v18 x7 x8 x9 x4))) (Prod.fst (val (v18 x13 x14 x15 x4))))) (some (.inl (false))) (cond (ok (v28 x13 x14 x15 x4)) (cond (ok (v23 (Prod.fst (val (v18 x7 x8 x9 x4))) (val (v28 x13 x14 x15 x4)))) (cond (!val (v23 (Prod.fst (val (v18 x7 x8 x9 x4))) (val (v28 x13 x14 x15 x4)))) (some (.inl (false))) (cond ((↑(List.length (Prod.fst (val (v18 x7 x8 x9 x4)))) : Int) != x7) (some (.inl (false))) (cond (x3 != (0 : Int)) (some (.inr (.inl ()))) (cond (isL (L4_156_0 x0 x1 x2 x3 x4 (Prod.fst (val (v18 x7 x8 x9 x4))) x5 x6 x7 x8 x9 x10 x11 x12 x13 x14 x15)) (some (.inl (getL (L4_156_0 x0 x1 x2 x3 x4 (Prod.fst (val (v18 x7 x8 x9 x4))) x5 x6 x7 x8 x9 x10 x11 x12 x13 x14 x15)))) (cond (ok (getR (L4_156_0 x0 x1 x2 x3 x4 (Prod.fst (val (v18 x7 x8 x9 x4))) x5 x6 x7 x8 x9 x10 x11 x12 x13 x14 x15))) (some (.inr (.inr ()))) none))))) none) none)) none))) none) none)
def xL4_116_0 (x0 : (List Int)) (x1 : Bool) (x2 : Int) (x3 : Int) (x4 : Int) (x5 : Int) (x6 : Int) (x7 : Int) (x8 : (List Int)) (x9 : (List (Int × (List Int)))) (x10 : Int) (x11 : (List Int)) (x12 : (List (Int × (List Int)))) (x13 : Int) (x14 : (List Int)) (x15 : (List (Int × (List Int)))) : (Bool ⊕ (Unit ⊕ Unit)) → Ex × CS := fun r => match r with | .inl a0 => (.ret, { sl := [(6, .v (.sc (.bool (a0))))], lo := [], h := [], n0 := 0 }) | .inr b0 => match b0 with | .inl a1 => ((.exit 1), { sl := [(2, .v (.sc (.d 5 (.int .u8) (x0)))), (3, .l 3 0), (7, .v (.sc (.bool (x1)))), (10, .v (.sc (.int .i64 (x2)))), (11, .l 11 0), (12, .v (.sc (.int .i64 (x3)))), (13, .l 13 0), (70, .v (.sc (.int .i64 (x5)))), (71, .v (.sc (.int .i64 (x6))))], lo := [(3, [.int .i64 (x7), .d 5 (.int .u8) (x8), .d 44 (.pair (.int .i64) (.list 5 (.int .u8))) (x9)]), (11, [.int .i64 (x10), .d 5 (.int .u8) (x11), .d 44 (.pair (.int .i64) (.list 5 (.int .u8))) (x12)]), (13, [.int .i64 (x13), .d 5 (.int .u8) (x14), .d 44 (.pair (.int .i64) (.list 5 (.int .u8))) (x15)])], h := [], n0 := 0 }) | .inr b1 => (.normal, { sl := [(2, .v (.sc (.d 5 (.int .u8) (x0)))), (3, .l 3 0), (7, .v (.sc (.bool (x1)))), (10, .v (.sc (.int .i64 (x2)))), (11, .l 11 0), (12, .v (.sc (.int .i64 (x3)))), (13, .l 13 0), (70, .v (.sc (.int .i64 (x5)))), (71, .v (.sc (.int .i64 (x6))))], lo := [(3, [.int .i64 (x7), .d 5 (.int .u8) (x8), .d 44 (.pair (.int .i64) (.list 5 (.int .u8))) (x9)]), (11, [.int .i64 (x10), .d 5 (.int .u8) (x11), .d 44 (.pair (.int .i64) (.list 5 (.int .u8))) (x12)]), (13, [.int .i64 (x13), .d 5 (.int .u8) (x14), .d 44 (.pair (.int .i64) (.list 5 (.int .u8))) (x15)])], h := [], n0 := 0 })
theorem bL4_116_0 (k : Nat) (cX : Ex → CS → Option (Ex × CS)) (x0 : (List Int)) (x1 : Bool) (x2 : Int) (x3 : Int) (x4 : Int) (x5 : Int) (x6 : Int) (x7 : Int) (x8 : (List Int)) (x9 : (List (Int × (List Int)))) (x10 : Int) (x11 : (List Int)) (x12 : (List (Int × (List Int)))) (x13 : Int) (x14 : (List Int)) (x15 : (List (Int × (List Int)))) : pieceBody Try.prog (mkTn base o31 t31 4) (TM.evF Try.prog (mkTn base o31 t31) dOk (k + 40)) dOk (k + 40) (codeAt Try.prog (tn0 4) 4 116) 1 116 { sl := [(2, .v (.sc (.d 5 (.int .u8) (x0)))), (3, .l 3 0), (7, .v (.sc (.bool (x1)))), (10, .v (.sc (.int .i64 (x2)))), (11, .l 11 0), (12, .v (.sc (.int .i64 (x3)))), (13, .l 13 0), (15, .v (.sc (.int .i64 (x4)))), (70, .v (.sc (.int .i64 (x5)))), (71, .v (.sc (.int .i64 (x6))))], lo := [(3, [.int .i64 (x7), .d 5 (.int .u8) (x8), .d 44 (.pair (.int .i64) (.list 5 (.int .u8))) (x9)]), (11, [.int .i64 (x10), .d 5 (.int .u8) (x11), .d 44 (.pair (.int .i64) (.list 5 (.int .u8))) (x12)]), (13, [.int .i64 (x13), .d 5 (.int .u8) (x14), .d 44 (.pair (.int .i64) (.list 5 (.int .u8))) (x15)])], h := [], n0 := 0 } cX = (cond (ok (v18 x7 x8 x9 x4)) (cond (ok (v18 x13 x14 x15 x4)) (cond (Prod.snd (val (v18 x7 x8 x9 x4)) != (0 : Int)) (cX .ret { sl := [(6, .v (.sc (.bool (false))))], lo := [], h := [], n0 := 0 }) (cond (Prod.snd (val (v18 x13 x14 x15 x4)) != (0 : Int)) (cX .ret { sl := [(6, .v (.sc (.bool (false))))], lo := [], h := [], n0 := 0 }) (cond (ok (v23 (Prod.fst (val (v18 x7 x8 x9 x4))) (Prod.fst (val (v18 x13 x14 x15 x4))))) (cond (!val (v23 (Prod.fst (val (v18 x7 x8 x9 x4))) (Prod.fst (val (v18 x13 x14 x15 x4))))) (cX .ret { sl := [(6, .v (.sc (.bool (false))))], lo := [], h := [], n0 := 0 }) (cond (ok (v28 x13 x14 x15 x4)) (cond (ok (v23 (Prod.fst (val (v18 x7 x8 x9 x4))) (val (v28 x13 x14 x15 x4)))) (cond (!val (v23 (Prod.fst (val (v18 x7 x8 x9 x4))) (val (v28 x13 x14 x15 x4)))) (cX .ret { sl := [(6, .v (.sc (.bool (false))))], lo := [], h := [], n0 := 0 }) (cond ((↑(List.length (Prod.fst (val (v18 x7 x8 x9 x4)))) : Int) != x7) (cX .ret { sl := [(6, .v (.sc (.bool (false))))], lo := [], h := [], n0 := 0 }) (cond (x3 != (0 : Int)) (cX (.exit 1) { sl := [(2, .v (.sc (.d 5 (.int .u8) (x0)))), (3, .l 3 0), (7, .v (.sc (.bool (x1)))), (10, .v (.sc (.int .i64 (x2)))), (11, .l 11 0), (12, .v (.sc (.int .i64 (x3)))), (13, .l 13 0), (70, .v (.sc (.int .i64 (x5)))), (71, .v (.sc (.int .i64 (x6))))], lo := [(3, [.int .i64 (x7), .d 5 (.int .u8) (x8), .d 44 (.pair (.int .i64) (.list 5 (.int .u8))) (x9)]), (11, [.int .i64 (x10), .d 5 (.int .u8) (x11), .d 44 (.pair (.int .i64) (.list 5 (.int .u8))) (x12)]), (13, [.int .i64 (x13), .d 5 (.int .u8) (x14), .d 44 (.pair (.int .i64) (.list 5 (.int .u8))) (x15)])], h := [], n0 := 0 }) (cond (isL (L4_156_0 x0 x1 x2 x3 x4 (Prod.fst (val (v18 x7 x8 x9 x4))) x5 x6 x7 x8 x9 x10 x11 x12 x13 x14 x15)) (cX .ret { sl := [(6, .v (.sc (.bool (getL (L4_156_0 x0 x1 x2 x3 x4 (Prod.fst (val (v18 x7 x8 x9 x4))) x5 x6 x7 x8 x9 x10 x11 x12 x13 x14 x15)))))], lo := [], h := [], n0 := 0 }) (cond (ok (getR (L4_156_0 x0 x1 x2 x3 x4 (Prod.fst (val (v18 x7 x8 x9 x4))) x5 x6 x7 x8 x9 x10 x11 x12 x13 x14 x15))) (cX .normal { sl := [(2, .v (.sc (.d 5 (.int .u8) (x0)))), (3, .l 3 0), (7, .v (.sc (.bool (x1)))), (10, .v (.sc (.int .i64 (x2)))), (11, .l 11 0), (12, .v (.sc (.int .i64 (x3)))), (13, .l 13 0), (70, .v (.sc (.int .i64 (x5)))), (71, .v (.sc (.int .i64 (x6))))], lo := [(3, [.int .i64 (x7), .d 5 (.int .u8) (x8), .d 44 (.pair (.int .i64) (.list 5 (.int .u8))) (x9)]), (11, [.int .i64 (x10), .d 5 (.int .u8) (x11), .d 44 (.pair (.int .i64) (.list 5 (.int .u8))) (x12)]), (13, [.int .i64 (x13), .d 5 (.int .u8) (x14), .d 44 (.pair (.int .i64) (.list 5 (.int .u8))) (x15)])], h := [], n0 := 0 }) none))))) none) none)) none))) none) none) := by kernel_rfl
theorem lL4_116_0 (k : Nat) (x0 : (List Int)) (x1 : Bool) (x2 : Int) (x3 : Int) (x4 : Int) (x5 : Int) (x6 : Int) (x7 : Int) (x8 : (List Int)) (x9 : (List (Int × (List Int)))) (x10 : Int) (x11 : (List Int)) (x12 : (List (Int × (List Int)))) (x13 : Int) (x14 : (List Int)) (x15 : (List (Int × (List Int)))) (r : (Bool ⊕ (Unit ⊕ Unit))) : L4_116_0 x0 x1 x2 x3 x4 x5 x6 x7 x8 x9 x10 x11 x12 x13 x14 x15 = some r → pieceBody Try.prog (mkTn base o31 t31 4) (TM.evF Try.prog (mkTn base o31 t31) dOk (k + 40)) dOk (k + 40) (codeAt Try.prog (tn0 4) 4 116) 1 116 { sl := [(2, .v (.sc (.d 5 (.int .u8) (x0)))), (3, .l 3 0), (7, .v (.sc (.bool (x1)))), (10, .v (.sc (.int .i64 (x2)))), (11, .l 11 0), (12, .v (.sc (.int .i64 (x3)))), (13, .l 13 0), (15, .v (.sc (.int .i64 (x4)))), (70, .v (.sc (.int .i64 (x5)))), (71, .v (.sc (.int .i64 (x6))))], lo := [(3, [.int .i64 (x7), .d 5 (.int .u8) (x8), .d 44 (.pair (.int .i64) (.list 5 (.int .u8))) (x9)]), (11, [.int .i64 (x10), .d 5 (.int .u8) (x11), .d 44 (.pair (.int .i64) (.list 5 (.int .u8))) (x12)]), (13, [.int .i64 (x13), .d 5 (.int .u8) (x14), .d 44 (.pair (.int .i64) (.list 5 (.int .u8))) (x15)])], h := [], n0 := 0 } (fun e s => some (e, s)) = some (xL4_116_0 x0 x1 x2 x3 x4 x5 x6 x7 x8 x9 x10 x11 x12 x13 x14 x15 r) := by
  rw [bL4_116_0]
  unfold L4_116_0
  cases (ok (v18 x7 x8 x9 x4)) with
  | true =>
    cases (ok (v18 x13 x14 x15 x4)) with
    | true =>
      cases (Prod.snd (val (v18 x7 x8 x9 x4)) != (0 : Int)) with
      | true =>
        intro h; cases h; rfl
      | false =>
        cases (Prod.snd (val (v18 x13 x14 x15 x4)) != (0 : Int)) with
        | true =>
          intro h; cases h; rfl
        | false =>
          cases (ok (v23 (Prod.fst (val (v18 x7 x8 x9 x4))) (Prod.fst (val (v18 x13 x14 x15 x4))))) with
          | true =>
            cases (!val (v23 (Prod.fst (val (v18 x7 x8 x9 x4))) (Prod.fst (val (v18 x13 x14 x15 x4))))) with
            | true =>
              intro h; cases h; rfl
            | false =>
              cases (ok (v28 x13 x14 x15 x4)) with
              | true =>
                cases (ok (v23 (Prod.fst (val (v18 x7 x8 x9 x4))) (val (v28 x13 x14 x15 x4)))) with
                | true =>
                  cases (!val (v23 (Prod.fst (val (v18 x7 x8 x9 x4))) (val (v28 x13 x14 x15 x4)))) with
                  | true =>
                    intro h; cases h; rfl
                  | false =>
                    cases ((↑(List.length (Prod.fst (val (v18 x7 x8 x9 x4)))) : Int) != x7) with
                    | true =>
                      intro h; cases h; rfl
                    | false =>
                      cases (x3 != (0 : Int)) with
                      | true =>
                        intro h; cases h; rfl
                      | false =>
                        cases (isL (L4_156_0 x0 x1 x2 x3 x4 (Prod.fst (val (v18 x7 x8 x9 x4))) x5 x6 x7 x8 x9 x10 x11 x12 x13 x14 x15)) with
                        | true =>
                          intro h; cases h; rfl
                        | false =>
                          cases (ok (getR (L4_156_0 x0 x1 x2 x3 x4 (Prod.fst (val (v18 x7 x8 x9 x4))) x5 x6 x7 x8 x9 x10 x11 x12 x13 x14 x15))) with
                          | true =>
                            intro h; cases h; rfl
                          | false =>
                            intro h; cases h
                | false =>
                  intro h; cases h
              | false =>
                intro h; cases h
          | false =>
            intro h; cases h
    | false =>
      intro h; cases h
  | false =>
    intro h; cases h
def sL4_116_0 : TellS := fun S => match S with
  | { sl := [(2, .v (.sc (.d 5 (.int .u8) (x0)))), (3, .l 3 0), (7, .v (.sc (.bool (x1)))), (10, .v (.sc (.int .i64 (x2)))), (11, .l 11 0), (12, .v (.sc (.int .i64 (x3)))), (13, .l 13 0), (15, .v (.sc (.int .i64 (x4)))), (70, .v (.sc (.int .i64 (x5)))), (71, .v (.sc (.int .i64 (x6))))], lo := [(3, [.int .i64 (x7), .d 5 (.int .u8) (x8), .d 44 (.pair (.int .i64) (.list 5 (.int .u8))) (x9)]), (11, [.int .i64 (x10), .d 5 (.int .u8) (x11), .d 44 (.pair (.int .i64) (.list 5 (.int .u8))) (x12)]), (13, [.int .i64 (x13), .d 5 (.int .u8) (x14), .d 44 (.pair (.int .i64) (.list 5 (.int .u8))) (x15)])], h := [], n0 := 0 } => some [(isL (L4_116_0 x0 x1 x2 x3 x4 x5 x6 x7 x8 x9 x10 x11 x12 x13 x14 x15), .ret, { sl := [(6, .v (.sc (.bool ((getL (L4_116_0 x0 x1 x2 x3 x4 x5 x6 x7 x8 x9 x10 x11 x12 x13 x14 x15))))))], lo := [], h := [], n0 := 0 }), (isL (getR (L4_116_0 x0 x1 x2 x3 x4 x5 x6 x7 x8 x9 x10 x11 x12 x13 x14 x15)), (.exit 1), { sl := [(2, .v (.sc (.d 5 (.int .u8) (x0)))), (3, .l 3 0), (7, .v (.sc (.bool (x1)))), (10, .v (.sc (.int .i64 (x2)))), (11, .l 11 0), (12, .v (.sc (.int .i64 (x3)))), (13, .l 13 0), (70, .v (.sc (.int .i64 (x5)))), (71, .v (.sc (.int .i64 (x6))))], lo := [(3, [.int .i64 (x7), .d 5 (.int .u8) (x8), .d 44 (.pair (.int .i64) (.list 5 (.int .u8))) (x9)]), (11, [.int .i64 (x10), .d 5 (.int .u8) (x11), .d 44 (.pair (.int .i64) (.list 5 (.int .u8))) (x12)]), (13, [.int .i64 (x13), .d 5 (.int .u8) (x14), .d 44 (.pair (.int .i64) (.list 5 (.int .u8))) (x15)])], h := [], n0 := 0 }), (ok (getR (getR (L4_116_0 x0 x1 x2 x3 x4 x5 x6 x7 x8 x9 x10 x11 x12 x13 x14 x15))), .normal, { sl := [(2, .v (.sc (.d 5 (.int .u8) (x0)))), (3, .l 3 0), (7, .v (.sc (.bool (x1)))), (10, .v (.sc (.int .i64 (x2)))), (11, .l 11 0), (12, .v (.sc (.int .i64 (x3)))), (13, .l 13 0), (70, .v (.sc (.int .i64 (x5)))), (71, .v (.sc (.int .i64 (x6))))], lo := [(3, [.int .i64 (x7), .d 5 (.int .u8) (x8), .d 44 (.pair (.int .i64) (.list 5 (.int .u8))) (x9)]), (11, [.int .i64 (x10), .d 5 (.int .u8) (x11), .d 44 (.pair (.int .i64) (.list 5 (.int .u8))) (x12)]), (13, [.int .i64 (x13), .d 5 (.int .u8) (x14), .d 44 (.pair (.int .i64) (.list 5 (.int .u8))) (x15)])], h := [], n0 := 0 })]
  | _ => none
theorem wL4_116_0 : NewTell Try.prog dOk base o31 t31 ((4, 116), sL4_116_0) := by
  refine ⟨(codeAt Try.prog (tn0 4) 4 116), 1, by kernel_rfl, ?_⟩
  intro S alts e S' h1 h2
  have h1 : sL4_116_0 S = some alts := h1
  unfold sL4_116_0 at h1
  split at h1
  · cases h1
    rcases pick_cons h2 with ⟨hc0, rfl, rfl⟩ | h2
    · exact ⟨0 + 40, (evPiece_code rfl).trans (lL4_116_0 0 _ _ _ _ _ _ _ _ _ _ _ _ _ _ _ _ _ (isL_val hc0))⟩
    rcases pick_cons h2 with ⟨hc1, rfl, rfl⟩ | h2
    · exact ⟨0 + 40, (evPiece_code rfl).trans (lL4_116_0 0 _ _ _ _ _ _ _ _ _ _ _ _ _ _ _ _ _ (getR_val (isL_val hc1)))⟩
    obtain ⟨hc2, rfl, rfl⟩ := pick_one h2
    exact ⟨0 + 40, (evPiece_code rfl).trans (lL4_116_0 0 _ _ _ _ _ _ _ _ _ _ _ _ _ _ _ _ _ (getR_val (getR_val (ok_val hc2))))⟩
  · cases h1
def o32 : OrcT := o31
def t32 : TellT := ((4, 116), sL4_116_0) :: t31
abbrev tn32 : FuncId → TAn := mkTn base o32 t32
theorem ok32 : TnOk Try.prog tn32 (mkA base) dOk := by
  have h0 : TnOk Try.prog (mkTn base o31 t31) (mkA base) dOk := ok31
  have h1 := tn_tell h0 h0 (p := ((4, 116), sL4_116_0)) wL4_116_0
  exact h1
end Go.Proofs.Ytchgjjgdgbecmaa
set_option maxRecDepth 1000000
set_option linter.unusedVariables false
set_option maxHeartbeats 4000000
namespace Go.Proofs.Ytchgjjgdgbecmaa
open Go Go.AM Go.TM Go.Proofs
/-- queuelablaw35.DiskReads: the loop 0 -/
def L4_0_0 : Nat → (List Int) → Bool → Int → Int → Int → Int → Int → (List Int) → (List (Int × (List Int))) → Int → (List Int) → (List (Int × (List Int))) → Int → (List Int) → (List (Int × (List Int))) → Option (Bool ⊕ Unit)
  | 0, _, _, _, _, _, _, _, _, _, _, _, _, _, _, _ => none
  | n + 1, x0, x1, x2, x3, x4, x5, x6, x7, x8, x9, x10, x11, x12, x13, x14 => (cond (decide (x5 < x4)) (cond (isL (L4_116_0 x0 x1 x2 x3 x5 x4 x5 x6 x7 x8 x9 x10 x11 x12 x13 x14)) (some (.inl (getL (L4_116_0 x0 x1 x2 x3 x5 x4 x5 x6 x7 x8 x9 x10 x11 x12 x13 x14)))) (cond (isL (getR (L4_116_0 x0 x1 x2 x3 x5 x4 x5 x6 x7 x8 x9 x10 x11 x12 x13 x14))) (L4_0_0 n (x0) (x1) (x2) (x3) (x4) (IntKind.wrap IntKind.i64 (x5 + (1 : Int))) (x6) (x7) (x8) (x9) (x10) (x11) (x12) (x13) (x14)) (cond (ok (getR (getR (L4_116_0 x0 x1 x2 x3 x5 x4 x5 x6 x7 x8 x9 x10 x11 x12 x13 x14)))) (L4_0_0 n (x0) (x1) (x2) (x3) (x4) (IntKind.wrap IntKind.i64 (x5 + (1 : Int))) (x6) (x7) (x8) (x9) (x10) (x11) (x12) (x13) (x14)) none))) (some (.inr ())))
theorem qL4_0_0 (n : Nat) (x0 : (List Int)) (x1 : Bool) (x2 : Int) (x3 : Int) (x4 : Int) (x5 : Int) (x6 : Int) (x7 : (List Int)) (x8 : (List (Int × (List Int)))) (x9 : Int) (x10 : (List Int)) (x11 : (List (Int × (List Int)))) (x12 : Int) (x13 : (List Int)) (x14 : (List (Int × (List Int)))) : L4_0_0 (n + 1) x0 x1 x2 x3 x4 x5 x6 x7 x8 x9 x10 x11 x12 x13 x14 = (cond (decide (x5 < x4)) (cond (isL (L4_116_0 x0 x1 x2 x3 x5 x4 x5 x6 x7 x8 x9 x10 x11 x12 x13 x14)) (some (.inl (getL (L4_116_0 x0 x1 x2 x3 x5 x4 x5 x6 x7 x8 x9 x10 x11 x12 x13 x14)))) (cond (isL (getR (L4_116_0 x0 x1 x2 x3 x5 x4 x5 x6 x7 x8 x9 x10 x11 x12 x13 x14))) (L4_0_0 n (x0) (x1) (x2) (x3) (x4) (IntKind.wrap IntKind.i64 (x5 + (1 : Int))) (x6) (x7) (x8) (x9) (x10) (x11) (x12) (x13) (x14)) (cond (ok (getR (getR (L4_116_0 x0 x1 x2 x3 x5 x4 x5 x6 x7 x8 x9 x10 x11 x12 x13 x14)))) (L4_0_0 n (x0) (x1) (x2) (x3) (x4) (IntKind.wrap IntKind.i64 (x5 + (1 : Int))) (x6) (x7) (x8) (x9) (x10) (x11) (x12) (x13) (x14)) none))) (some (.inr ()))) := by rfl
def xL4_0_0 (x0 : (List Int)) (x1 : Bool) (x2 : Int) (x3 : Int) (x4 : Int) (x5 : Int) (x6 : Int) (x7 : (List Int)) (x8 : (List (Int × (List Int)))) (x9 : Int) (x10 : (List Int)) (x11 : (List (Int × (List Int)))) (x12 : Int) (x13 : (List Int)) (x14 : (List (Int × (List Int)))) : (Bool ⊕ Unit) → Ex × CS := fun r => match r with | .inl a0 => (.ret, { sl := [(6, .v (.sc (.bool (a0))))], lo := [], h := [], n0 := 0 }) | .inr b0 => ((.exit 0), { sl := [(2, .v (.sc (.d 5 (.int .u8) (x0)))), (3, .l 3 0), (7, .v (.sc (.bool (x1)))), (11, .l 11 0), (12, .v (.sc (.int .i64 (x3)))), (13, .l 13 0)], lo := [(3, [.int .i64 (x6), .d 5 (.int .u8) (x7), .d 44 (.pair (.int .i64) (.list 5 (.int .u8))) (x8)]), (11, [.int .i64 (x9), .d 5 (.int .u8) (x10), .d 44 (.pair (.int .i64) (.list 5 (.int .u8))) (x11)])], h := [], n0 := 0 })
theorem bL4_0_0 (k : Nat) (cN : CS → Option (Ex × CS)) (cX : Ex → CS → Option (Ex × CS)) (x0 : (List Int)) (x1 : Bool) (x2 : Int) (x3 : Int) (x4 : Int) (x5 : Int) (x6 : Int) (x7 : (List Int)) (x8 : (List (Int × (List Int)))) (x9 : Int) (x10 : (List Int)) (x11 : (List (Int × (List Int)))) (x12 : Int) (x13 : (List Int)) (x14 : (List (Int × (List Int)))) : loopBody Try.prog (mkTn base o32 t32 4) (TM.evF Try.prog (mkTn base o32 t32) dOk (k + 40)) dOk (k + 40) (codeAt Try.prog (tn0 4) 4 0) 0 0 { sl := [(2, .v (.sc (.d 5 (.int .u8) (x0)))), (3, .l 3 0), (7, .v (.sc (.bool (x1)))), (10, .v (.sc (.int .i64 (x2)))), (11, .l 11 0), (12, .v (.sc (.int .i64 (x3)))), (13, .l 13 0), (70, .v (.sc (.int .i64 (x4)))), (71, .v (.sc (.int .i64 (x5))))], lo := [(3, [.int .i64 (x6), .d 5 (.int .u8) (x7), .d 44 (.pair (.int .i64) (.list 5 (.int .u8))) (x8)]), (11, [.int .i64 (x9), .d 5 (.int .u8) (x10), .d 44 (.pair (.int .i64) (.list 5 (.int .u8))) (x11)]), (13, [.int .i64 (x12), .d 5 (.int .u8) (x13), .d 44 (.pair (.int .i64) (.list 5 (.int .u8))) (x14)])], h := [], n0 := 0 } cN cX = (cond (decide (x5 < x4)) (cond (isL (L4_116_0 x0 x1 x2 x3 x5 x4 x5 x6 x7 x8 x9 x10 x11 x12 x13 x14)) (cX .ret { sl := [(6, .v (.sc (.bool (getL (L4_116_0 x0 x1 x2 x3 x5 x4 x5 x6 x7 x8 x9 x10 x11 x12 x13 x14)))))], lo := [], h := [], n0 := 0 }) (cond (isL (getR (L4_116_0 x0 x1 x2 x3 x5 x4 x5 x6 x7 x8 x9 x10 x11 x12 x13 x14))) (cN { sl := [(2, .v (.sc (.d 5 (.int .u8) (x0)))), (3, .l 3 0), (7, .v (.sc (.bool (x1)))), (10, .v (.sc (.int .i64 (x2)))), (11, .l 11 0), (12, .v (.sc (.int .i64 (x3)))), (13, .l 13 0), (70, .v (.sc (.int .i64 (x4)))), (71, .v (.sc (.int .i64 (IntKind.wrap IntKind.i64 (x5 + (1 : Int))))))], lo := [(3, [.int .i64 (x6), .d 5 (.int .u8) (x7), .d 44 (.pair (.int .i64) (.list 5 (.int .u8))) (x8)]), (11, [.int .i64 (x9), .d 5 (.int .u8) (x10), .d 44 (.pair (.int .i64) (.list 5 (.int .u8))) (x11)]), (13, [.int .i64 (x12), .d 5 (.int .u8) (x13), .d 44 (.pair (.int .i64) (.list 5 (.int .u8))) (x14)])], h := [], n0 := 0 }) (cond (ok (getR (getR (L4_116_0 x0 x1 x2 x3 x5 x4 x5 x6 x7 x8 x9 x10 x11 x12 x13 x14)))) (cN { sl := [(2, .v (.sc (.d 5 (.int .u8) (x0)))), (3, .l 3 0), (7, .v (.sc (.bool (x1)))), (10, .v (.sc (.int .i64 (x2)))), (11, .l 11 0), (12, .v (.sc (.int .i64 (x3)))), (13, .l 13 0), (70, .v (.sc (.int .i64 (x4)))), (71, .v (.sc (.int .i64 (IntKind.wrap IntKind.i64 (x5 + (1 : Int))))))], lo := [(3, [.int .i64 (x6), .d 5 (.int .u8) (x7), .d 44 (.pair (.int .i64) (.list 5 (.int .u8))) (x8)]), (11, [.int .i64 (x9), .d 5 (.int .u8) (x10), .d 44 (.pair (.int .i64) (.list 5 (.int .u8))) (x11)]), (13, [.int .i64 (x12), .d 5 (.int .u8) (x13), .d 44 (.pair (.int .i64) (.list 5 (.int .u8))) (x14)])], h := [], n0 := 0 }) none))) (cX (.exit 0) { sl := [(2, .v (.sc (.d 5 (.int .u8) (x0)))), (3, .l 3 0), (7, .v (.sc (.bool (x1)))), (11, .l 11 0), (12, .v (.sc (.int .i64 (x3)))), (13, .l 13 0)], lo := [(3, [.int .i64 (x6), .d 5 (.int .u8) (x7), .d 44 (.pair (.int .i64) (.list 5 (.int .u8))) (x8)]), (11, [.int .i64 (x9), .d 5 (.int .u8) (x10), .d 44 (.pair (.int .i64) (.list 5 (.int .u8))) (x11)])], h := [], n0 := 0 })) := by kernel_rfl
theorem lL4_0_0 (k m : Nat) : ∀ (n : Nat) (x0 : (List Int)) (x1 : Bool) (x2 : Int) (x3 : Int) (x4 : Int) (x5 : Int) (x6 : Int) (x7 : (List Int)) (x8 : (List (Int × (List Int)))) (x9 : Int) (x10 : (List Int)) (x11 : (List (Int × (List Int)))) (x12 : Int) (x13 : (List Int)) (x14 : (List (Int × (List Int)))) (r : (Bool ⊕ Unit)), L4_0_0 n x0 x1 x2 x3 x4 x5 x6 x7 x8 x9 x10 x11 x12 x13 x14 = some r → loopE Try.prog (mkTn base o32 t32 4) (TM.evF Try.prog (mkTn base o32 t32) dOk (k + 40)) dOk (k + 40) (codeAt Try.prog (tn0 4) 4 0) 0 0 (n + m) { sl := [(2, .v (.sc (.d 5 (.int .u8) (x0)))), (3, .l 3 0), (7, .v (.sc (.bool (x1)))), (10, .v (.sc (.int .i64 (x2)))), (11, .l 11 0), (12, .v (.sc (.int .i64 (x3)))), (13, .l 13 0), (70, .v (.sc (.int .i64 (x4)))), (71, .v (.sc (.int .i64 (x5))))], lo := [(3, [.int .i64 (x6), .d 5 (.int .u8) (x7), .d 44 (.pair (.int .i64) (.list 5 (.int .u8))) (x8)]), (11, [.int .i64 (x9), .d 5 (.int .u8) (x10), .d 44 (.pair (.int .i64) (.list 5 (.int .u8))) (x11)]), (13, [.int .i64 (x12), .d 5 (.int .u8) (x13), .d 44 (.pair (.int .i64) (.list 5 (.int .u8))) (x14)])], h := [], n0 := 0 } = some (xL4_0_0 x0 x1 x2 x3 x4 x5 x6 x7 x8 x9 x10 x11 x12 x13 x14 r) := by
  intro n
  induction n with
  | zero => intro _ _ _ _ _ _ _ _ _ _ _ _ _ _ _ r h; cases h
  | succ n ih =>
    intro x0 x1 x2 x3 x4 x5 x6 x7 x8 x9 x10 x11 x12 x13 x14 r
    rw [show n + 1 + m = n + m + 1 by omega, loop_step, bL4_0_0, qL4_0_0]
    cases (decide (x5 < x4)) with
    | true =>
      cases (isL (L4_116_0 x0 x1 x2 x3 x5 x4 x5 x6 x7 x8 x9 x10 x11 x12 x13 x14)) with
      | true =>
        intro h; cases h; rfl
      | false =>
        cases (isL (getR (L4_116_0 x0 x1 x2 x3 x5 x4 x5 x6 x7 x8 x9 x10 x11 x12 x13 x14))) with
        | true =>
          exact ih _ _ _ _ _ _ _ _ _ _ _ _ _ _ _ r
        | false =>
          cases (ok (getR (getR (L4_116_0 x0 x1 x2 x3 x5 x4 x5 x6 x7 x8 x9 x10 x11 x12 x13 x14)))) with
          | true =>
            exact ih _ _ _ _ _ _ _ _ _ _ _ _ _ _ _ r
          | false =>
            intro h; cases h
    | false =>
      intro h; cases h; rfl
def sL4_0_0 : TellS := fun S => match S with
  | { sl := [(2, .v (.sc (.d 5 (.int .u8) (x0)))), (3, .l 3 0), (7, .v (.sc (.bool (x1)))), (10, .v (.sc (.int .i64 (x2)))), (11, .l 11 0), (12, .v (.sc (.int .i64 (x3)))), (13, .l 13 0), (70, .v (.sc (.int .i64 (x4)))), (71, .v (.sc (.int .i64 (x5))))], lo := [(3, [.int .i64 (x6), .d 5 (.int .u8) (x7), .d 44 (.pair (.int .i64) (.list 5 (.int .u8))) (x8)]), (11, [.int .i64 (x9), .d 5 (.int .u8) (x10), .d 44 (.pair (.int .i64) (.list 5 (.int .u8))) (x11)]), (13, [.int .i64 (x12), .d 5 (.int .u8) (x13), .d 44 (.pair (.int .i64) (.list 5 (.int .u8))) (x14)])], h := [], n0 := 0 } => some [(isL (L4_0_0 FU x0 x1 x2 x3 x4 x5 x6 x7 x8 x9 x10 x11 x12 x13 x14), .ret, { sl := [(6, .v (.sc (.bool ((getL (L4_0_0 FU x0 x1 x2 x3 x4 x5 x6 x7 x8 x9 x10 x11 x12 x13 x14))))))], lo := [], h := [], n0 := 0 }), (ok (getR (L4_0_0 FU x0 x1 x2 x3 x4 x5 x6 x7 x8 x9 x10 x11 x12 x13 x14)), (.exit 0), { sl := [(2, .v (.sc (.d 5 (.int .u8) (x0)))), (3, .l 3 0), (7, .v (.sc (.bool (x1)))), (11, .l 11 0), (12, .v (.sc (.int .i64 (x3)))), (13, .l 13 0)], lo := [(3, [.int .i64 (x6), .d 5 (.int .u8) (x7), .d 44 (.pair (.int .i64) (.list 5 (.int .u8))) (x8)]), (11, [.int .i64 (x9), .d 5 (.int .u8) (x10), .d 44 (.pair (.int .i64) (.list 5 (.int .u8))) (x11)])], h := [], n0 := 0 })]
  | _ => none
theorem wL4_0_0 : NewTell Try.prog dOk base o32 t32 ((4, 0), sL4_0_0) := by
  refine ⟨.loop (codeAt Try.prog (tn0 4) 4 0), 0, by kernel_rfl, ?_⟩
  intro S alts e S' h1 h2
  have h1 : sL4_0_0 S = some alts := h1
  unfold sL4_0_0 at h1
  split at h1
  · cases h1
    rcases pick_cons h2 with ⟨hc0, rfl, rfl⟩ | h2
    · exact ⟨FU + 40, (evPiece_loop rfl).trans (lL4_0_0 FU 40 FU _ _ _ _ _ _ _ _ _ _ _ _ _ _ _ _ (isL_val hc0))⟩
    obtain ⟨hc1, rfl, rfl⟩ := pick_one h2
    exact ⟨FU + 40, (evPiece_loop rfl).trans (lL4_0_0 FU 40 FU _ _ _ _ _ _ _ _ _ _ _ _ _ _ _ _ (getR_val (ok_val hc1)))⟩
  · cases h1
def o33 : OrcT := o32
def t33 : TellT := ((4, 0), sL4_0_0) :: t32
abbrev tn33 : FuncId → TAn := mkTn base o33 t33
theorem ok33 : TnOk Try.prog tn33 (mkA base) dOk := by
  have h0 : TnOk Try.prog (mkTn base o32 t32) (mkA base) dOk := ok32
  have h1 := tn_tell h0 h0 (p := ((4, 0), sL4_0_0)) wL4_0_0
  exact h1
end Go.Proofs.Ytchgjjgdgbecmaa
