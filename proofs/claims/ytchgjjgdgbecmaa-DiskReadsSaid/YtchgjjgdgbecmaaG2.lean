/- What some functions and loops come to: printed and checked. Written by a program of ours. -/
import Derived.Test.YtchgjjgdgbecmaaG1
set_option linter.all false
set_option linter.constructorNameAsVariable false
set_option linter.unnecessarySimpa false
set_option linter.unusedSimpArgs false
set_option linter.unusedVariables false
set_option maxRecDepth 1000000
set_option linter.unusedVariables false
set_option maxHeartbeats 4000000
namespace Go.Proofs.Ytchgjjgdgbecmaa
open Go Go.AM Go.TM Go.Proofs
/-- queuelablaw35.DiskReads: the piece 36 -/
def L4_36_0 (x0 : Int) (x1 : (List Int)) (x2 : Bool) (x3 : Int) (x4 : (List Int)) (x5 : (List (Int × (List Int)))) : Option Bool := (cond (ok (v27 x3 x4 x5)) (cond (decide (x3 ≠ (0 : Int))) (cond (decide (IntKind.wrap IntKind.i64 (Int.tdiv (↑(List.length x4) : Int) x3) ≠ (0 : Int))) (cond (ok (v12 x3 x4 x5 (Int.tmod (IntKind.wrap IntKind.i64 x0) (IntKind.wrap IntKind.i64 (Int.tdiv (↑(List.length x4) : Int) x3))) x1)) (cond (ok (v14 x3 x4 x5)) (cond (Prod.snd (Prod.snd (Prod.snd (val (v14 x3 x4 x5)))) != (0 : Int)) (some (false)) (cond ((↑(List.length (Prod.fst (Prod.snd (Prod.snd (val (v14 x3 x4 x5)))))) : Int) != (0 : Int)) (some (false)) (cond (ok (v24 (Prod.fst (val (v14 x3 x4 x5))) (Prod.fst (Prod.snd (val (v14 x3 x4 x5)))) (Prod.fst (Prod.snd (Prod.snd (val (v14 x3 x4 x5))))))) (cond (!val (v24 (Prod.fst (val (v14 x3 x4 x5))) (Prod.fst (Prod.snd (val (v14 x3 x4 x5)))) (Prod.fst (Prod.snd (Prod.snd (val (v14 x3 x4 x5))))))) (some (false)) (cond (ok (v22 x3 x4 x5 x3 x4 (val (v27 x3 x4 x5)))) (cond (!val (v22 x3 x4 x5 x3 x4 (val (v27 x3 x4 x5)))) (some (false)) (cond (isL (L4_0_0 FU x1 x2 (Int.tmod (IntKind.wrap IntKind.i64 x0) (IntKind.wrap IntKind.i64 (Int.tdiv (↑(List.length x4) : Int) x3))) (Prod.snd (Prod.snd (Prod.snd (val (v12 x3 x4 x5 (Int.tmod (IntKind.wrap IntKind.i64 x0) (IntKind.wrap IntKind.i64 (Int.tdiv (↑(List.length x4) : Int) x3))) x1))))) (IntKind.wrap IntKind.i64 (Int.tdiv (↑(List.length x4) : Int) x3)) (0 : Int) x3 x4 x5 (Prod.fst (val (v12 x3 x4 x5 (Int.tmod (IntKind.wrap IntKind.i64 x0) (IntKind.wrap IntKind.i64 (Int.tdiv (↑(List.length x4) : Int) x3))) x1))) (Prod.fst (Prod.snd (val (v12 x3 x4 x5 (Int.tmod (IntKind.wrap IntKind.i64 x0) (IntKind.wrap IntKind.i64 (Int.tdiv (↑(List.length x4) : Int) x3))) x1)))) (Prod.fst (Prod.snd (Prod.snd (val (v12 x3 x4 x5 (Int.tmod (IntKind.wrap IntKind.i64 x0) (IntKind.wrap IntKind.i64 (Int.tdiv (↑(List.length x4) : Int) x3))) x1))))) (Prod.fst (val (v14 x3 x4 x5))) (Prod.fst (Prod.snd (val (v14 x3 x4 x5)))) (Prod.fst (Prod.snd (Prod.snd (val (v14 x3 x4 x5))))))) (some (getL (L4_0_0 FU x1 x2 (Int.tmod (IntKind.wrap IntKind.i64 x0) (IntKind.wrap IntKind.i64 (Int.tdiv (↑(List.length x4) : Int) x3))) (Prod.snd (Prod.snd (Prod.snd (val (v12 x3 x4 x5 (Int.tmod (IntKind.wrap IntKind.i64 x0) (IntKind.wrap IntKind.i64 (Int.tdiv (↑(List.length x4) : Int) x3))) x1))))) (IntKind.wrap IntKind.i64 (Int.tdiv (↑(List.length x4) : Int) x3)) (0 : Int) x3 x4 x5 (Prod.fst (val (v12 x3 x4 x5 (Int.tmod (IntKind.wrap IntKind.i64 x0) (IntKind.wrap IntKind.i64 (Int.tdiv (↑(List.length x4) : Int) x3))) x1))) (Prod.fst (Prod.snd (val (v12 x3 x4 x5 (Int.tmod (IntKind.wrap IntKind.i64 x0) (IntKind.wrap IntKind.i64 (Int.tdiv (↑(List.length x4) : Int) x3))) x1)))) (Prod.fst (Prod.snd (Prod.snd (val (v12 x3 x4 x5 (Int.tmod (IntKind.wrap IntKind.i64 x0) (IntKind.wrap IntKind.i64 (Int.tdiv (↑(List.length x4) : Int) x3))) x1))))) (Prod.fst (val (v14 x3 x4 x5))) (Prod.fst (Prod.snd (val (v14 x3 x4 x5)))) (Prod.fst (Prod.snd (Prod.snd (val (v14 x3 x4 x5)))))))) (cond (ok (getR (L4_0_0 FU x1 x2 (Int.tmod (IntKind.wrap IntKind.i64 x0) (IntKind.wrap IntKind.i64 (Int.tdiv (↑(List.length x4) : Int) x3))) (Prod.snd (Prod.snd (Prod.snd (val (v12 x3 x4 x5 (Int.tmod (IntKind.wrap IntKind.i64 x0) (IntKind.wrap IntKind.i64 (Int.tdiv (↑(List.length x4) : Int) x3))) x1))))) (IntKind.wrap IntKind.i64 (Int.tdiv (↑(List.length x4) : Int) x3)) (0 : Int) x3 x4 x5 (Prod.fst (val (v12 x3 x4 x5 (Int.tmod (IntKind.wrap IntKind.i64 x0) (IntKind.wrap IntKind.i64 (Int.tdiv (↑(List.length x4) : Int) x3))) x1))) (Prod.fst (Prod.snd (val (v12 x3 x4 x5 (Int.tmod (IntKind.wrap IntKind.i64 x0) (IntKind.wrap IntKind.i64 (Int.tdiv (↑(List.length x4) : Int) x3))) x1)))) (Prod.fst (Prod.snd (Prod.snd (val (v12 x3 x4 x5 (Int.tmod (IntKind.wrap IntKind.i64 x0) (IntKind.wrap IntKind.i64 (Int.tdiv (↑(List.length x4) : Int) x3))) x1))))) (Prod.fst (val (v14 x3 x4 x5))) (Prod.fst (Prod.snd (val (v14 x3 x4 x5)))) (Prod.fst (Prod.snd (Prod.snd (val (v14 x3 x4 x5)))))))) (cond (x2) (cond (Prod.snd (Prod.snd (Prod.snd (val (v12 x3 x4 x5 (Int.tmod (IntKind.wrap IntKind.i64 x0) (IntKind.wrap IntKind.i64 (Int.tdiv (↑(List.length x4) : Int) x3))) x1)))) == (0 : Int)) (cond (ok (v24 (Prod.fst (val (v12 x3 x4 x5 (Int.tmod (IntKind.wrap IntKind.i64 x0) (IntKind.wrap IntKind.i64 (Int.tdiv (↑(List.length x4) : Int) x3))) x1))) (Prod.fst (Prod.snd (val (v12 x3 x4 x5 (Int.tmod (IntKind.wrap IntKind.i64 x0) (IntKind.wrap IntKind.i64 (Int.tdiv (↑(List.length x4) : Int) x3))) x1)))) (Prod.fst (Prod.snd (Prod.snd (val (v12 x3 x4 x5 (Int.tmod (IntKind.wrap IntKind.i64 x0) (IntKind.wrap IntKind.i64 (Int.tdiv (↑(List.length x4) : Int) x3))) x1))))))) (cond (val (v24 (Prod.fst (val (v12 x3 x4 x5 (Int.tmod (IntKind.wrap IntKind.i64 x0) (IntKind.wrap IntKind.i64 (Int.tdiv (↑(List.length x4) : Int) x3))) x1))) (Prod.fst (Prod.snd (val (v12 x3 x4 x5 (Int.tmod (IntKind.wrap IntKind.i64 x0) (IntKind.wrap IntKind.i64 (Int.tdiv (↑(List.length x4) : Int) x3))) x1)))) (Prod.fst (Prod.snd (Prod.snd (val (v12 x3 x4 x5 (Int.tmod (IntKind.wrap IntKind.i64 x0) (IntKind.wrap IntKind.i64 (Int.tdiv (↑(List.length x4) : Int) x3))) x1))))))) (some (true)) (cond (Prod.snd (Prod.snd (Prod.snd (val (v12 x3 x4 x5 (Int.tmod (IntKind.wrap IntKind.i64 x0) (IntKind.wrap IntKind.i64 (Int.tdiv (↑(List.length x4) : Int) x3))) x1)))) == (1 : Int)) (cond ((↑(List.length x1) : Int) != x3) (some (true)) (cond (Prod.snd (Prod.snd (Prod.snd (val (v12 x3 x4 x5 (Int.tmod (IntKind.wrap IntKind.i64 x0) (IntKind.wrap IntKind.i64 (Int.tdiv (↑(List.length x4) : Int) x3))) x1)))) == (10 : Int)) (some ((↑(List.length x5) : Int) == (64 : Int))) (some (false)))) (cond (Prod.snd (Prod.snd (Prod.snd (val (v12 x3 x4 x5 (Int.tmod (IntKind.wrap IntKind.i64 x0) (IntKind.wrap IntKind.i64 (Int.tdiv (↑(List.length x4) : Int) x3))) x1)))) == (10 : Int)) (some ((↑(List.length x5) : Int) == (64 : Int))) (some (false))))) none) (cond (Prod.snd (Prod.snd (Prod.snd (val (v12 x3 x4 x5 (Int.tmod (IntKind.wrap IntKind.i64 x0) (IntKind.wrap IntKind.i64 (Int.tdiv (↑(List.length x4) : Int) x3))) x1)))) == (1 : Int)) (cond ((↑(List.length x1) : Int) != x3) (some (true)) (cond (Prod.snd (Prod.snd (Prod.snd (val (v12 x3 x4 x5 (Int.tmod (IntKind.wrap IntKind.i64 x0) (IntKind.wrap IntKind.i64 (Int.tdiv (↑(List.length x4) : Int) x3))) x1)))) == (10 : Int)) (some ((↑(List.length x5) : Int) == (64 : Int))) (some (false)))) (cond (Prod.snd (Prod.snd (Prod.snd (val (v12 x3 x4 x5 (Int.tmod (IntKind.wrap IntKind.i64 x0) (IntKind.wrap IntKind.i64 (Int.tdiv (↑(List.length x4) : Int) x3))) x1)))) == (10 : Int)) (some ((↑(List.length x5) : Int) == (64 : Int))) (some (false))))) (some (false))) none))) none)) none))) none) none) none) none) none)
def xL4_36_0 (x0 : Int) (x1 : (List Int)) (x2 : Bool) (x3 : Int) (x4 : (List Int)) (x5 : (List (Int × (List Int)))) : Bool → Ex × CS := fun r => (.ret, { sl := [(6, .v (.sc (.bool (r))))], lo := [], h := [], n0 := 0 })
theorem bL4_36_0 (k : Nat) (cX : Ex → CS → Option (Ex × CS)) (x0 : Int) (x1 : (List Int)) (x2 : Bool) (x3 : Int) (x4 : (List Int)) (x5 : (List (Int × (List Int)))) : pieceBody Try.prog (mkTn base o33 t33 4) (TM.evF Try.prog (mkTn base o33 t33) dOk (k + 40)) dOk (k + 40) (codeAt Try.prog (tn0 4) 4 36) 0 36 { sl := [(1, .v (.sc (.int .u8 (x0)))), (2, .v (.sc (.d 5 (.int .u8) (x1)))), (3, .l 3 0), (7, .v (.sc (.bool (x2))))], lo := [(3, [.int .i64 (x3), .d 5 (.int .u8) (x4), .d 44 (.pair (.int .i64) (.list 5 (.int .u8))) (x5)])], h := [], n0 := 0 } cX = (cond (ok (v27 x3 x4 x5)) (cond (decide (x3 ≠ (0 : Int))) (cond (decide (IntKind.wrap IntKind.i64 (Int.tdiv (↑(List.length x4) : Int) x3) ≠ (0 : Int))) (cond (ok (v12 x3 x4 x5 (Int.tmod (IntKind.wrap IntKind.i64 x0) (IntKind.wrap IntKind.i64 (Int.tdiv (↑(List.length x4) : Int) x3))) x1)) (cond (ok (v14 x3 x4 x5)) (cond (Prod.snd (Prod.snd (Prod.snd (val (v14 x3 x4 x5)))) != (0 : Int)) (cX .ret { sl := [(6, .v (.sc (.bool (false))))], lo := [], h := [], n0 := 0 }) (cond ((↑(List.length (Prod.fst (Prod.snd (Prod.snd (val (v14 x3 x4 x5)))))) : Int) != (0 : Int)) (cX .ret { sl := [(6, .v (.sc (.bool (false))))], lo := [], h := [], n0 := 0 }) (cond (ok (v24 (Prod.fst (val (v14 x3 x4 x5))) (Prod.fst (Prod.snd (val (v14 x3 x4 x5)))) (Prod.fst (Prod.snd (Prod.snd (val (v14 x3 x4 x5))))))) (cond (!val (v24 (Prod.fst (val (v14 x3 x4 x5))) (Prod.fst (Prod.snd (val (v14 x3 x4 x5)))) (Prod.fst (Prod.snd (Prod.snd (val (v14 x3 x4 x5))))))) (cX .ret { sl := [(6, .v (.sc (.bool (false))))], lo := [], h := [], n0 := 0 }) (cond (ok (v22 x3 x4 x5 x3 x4 (val (v27 x3 x4 x5)))) (cond (!val (v22 x3 x4 x5 x3 x4 (val (v27 x3 x4 x5)))) (cX .ret { sl := [(6, .v (.sc (.bool (false))))], lo := [], h := [], n0 := 0 }) (cond (isL (L4_0_0 FU x1 x2 (Int.tmod (IntKind.wrap IntKind.i64 x0) (IntKind.wrap IntKind.i64 (Int.tdiv (↑(List.length x4) : Int) x3))) (Prod.snd (Prod.snd (Prod.snd (val (v12 x3 x4 x5 (Int.tmod (IntKind.wrap IntKind.i64 x0) (IntKind.wrap IntKind.i64 (Int.tdiv (↑(List.length x4) : Int) x3))) x1))))) (IntKind.wrap IntKind.i64 (Int.tdiv (↑(List.length x4) : Int) x3)) (0 : Int) x3 x4 x5 (Prod.fst (val (v12 x3 x4 x5 (Int.tmod (IntKind.wrap IntKind.i64 x0) (IntKind.wrap IntKind.i64 (Int.tdiv (↑(List.length x4) : Int) x3))) x1))) (Prod.fst (Prod.snd (val (v12 x3 x4 x5 (Int.tmod (IntKind.wrap IntKind.i64 x0) (IntKind.wrap IntKind.i64 (Int.tdiv (↑(List.length x4) : Int) x3))) x1)))) (Prod.fst (Prod.snd (Prod.snd (val (v12 x3 x4 x5 (Int.tmod (IntKind.wrap IntKind.i64 x0) (IntKind.wrap IntKind.i64 (Int.tdiv (↑(List.length x4) : Int) x3))) x1))))) (Prod.fst (val (v14 x3 x4 x5))) (Prod.fst (Prod.snd (val (v14 x3 x4 x5)))) (Prod.fst (Prod.snd (Prod.snd (val (v14 x3 x4 x5))))))) (cX .ret { sl := [(6, .v (.sc (.bool (getL (L4_0_0 FU x1 x2 (Int.tmod (IntKind.wrap IntKind.i64 x0) (IntKind.wrap IntKind.i64 (Int.tdiv (↑(List.length x4) : Int) x3))) (Prod.snd (Prod.snd (Prod.snd (val (v12 x3 x4 x5 (Int.tmod (IntKind.wrap IntKind.i64 x0) (IntKind.wrap IntKind.i64 (Int.tdiv (↑(List.length x4) : Int) x3))) x1))))) (IntKind.wrap IntKind.i64 (Int.tdiv (↑(List.length x4) : Int) x3)) (0 : Int) x3 x4 x5 (Prod.fst (val (v12 x3 x4 x5 (Int.tmod (IntKind.wrap IntKind.i64 x0) (IntKind.wrap IntKind.i64 (Int.tdiv (↑(List.length x4) : Int) x3))) x1))) (Prod.fst (Prod.snd (val (v12 x3 x4 x5 (Int.tmod (IntKind.wrap IntKind.i64 x0) (IntKind.wrap IntKind.i64 (Int.tdiv (↑(List.length x4) : Int) x3))) x1)))) (Prod.fst (Prod.snd (Prod.snd (val (v12 x3 x4 x5 (Int.tmod (IntKind.wrap IntKind.i64 x0) (IntKind.wrap IntKind.i64 (Int.tdiv (↑(List.length x4) : Int) x3))) x1))))) (Prod.fst (val (v14 x3 x4 x5))) (Prod.fst (Prod.snd (val (v14 x3 x4 x5)))) (Prod.fst (Prod.snd (Prod.snd (val (v14 x3 x4 x5))))))))))], lo := [], h := [], n0 := 0 }) (cond (ok (getR (L4_0_0 FU x1 x2 (Int.tmod (IntKind.wrap IntKind.i64 x0) (IntKind.wrap IntKind.i64 (Int.tdiv (↑(List.length x4) : Int) x3))) (Prod.snd (Prod.snd (Prod.snd (val (v12 x3 x4 x5 (Int.tmod (IntKind.wrap IntKind.i64 x0) (IntKind.wrap IntKind.i64 (Int.tdiv (↑(List.length x4) : Int) x3))) x1))))) (IntKind.wrap IntKind.i64 (Int.tdiv (↑(List.length x4) : Int) x3)) (0 : Int) x3 x4 x5 (Prod.fst (val (v12 x3 x4 x5 (Int.tmod (IntKind.wrap IntKind.i64 x0) (IntKind.wrap IntKind.i64 (Int.tdiv (↑(List.length x4) : Int) x3))) x1))) (Prod.fst (Prod.snd (val (v12 x3 x4 x5 (Int.tmod (IntKind.wrap IntKind.i64 x0) (IntKind.wrap IntKind.i64 (Int.tdiv (↑(List.length x4) : Int) x3))) x1)))) (Prod.fst (Prod.snd (Prod.snd (val (v12 x3 x4 x5 (Int.tmod (IntKind.wrap IntKind.i64 x0) (IntKind.wrap IntKind.i64 (Int.tdiv (↑(List.length x4) : Int) x3))) x1))))) (Prod.fst (val (v14 x3 x4 x5))) (Prod.fst (Prod.snd (val (v14 x3 x4 x5)))) (Prod.fst (Prod.snd (Prod.snd (val (v14 x3 x4 x5)))))))) (cond (x2) (cond (Prod.snd (Prod.snd (Prod.snd (val (v12 x3 x4 x5 (Int.tmod (IntKind.wrap IntKind.i64 x0) (IntKind.wrap IntKind.i64 (Int.tdiv (↑(List.length x4) : Int) x3))) x1)))) == (0 : Int)) (cond (ok (v24 (Prod.fst (val (v12 x3 x4 x5 (Int.tmod (IntKind.wrap IntKind.i64 x0) (IntKind.wrap IntKind.i64 (Int.tdiv (↑(List.length x4) : Int) x3))) x1))) (Prod.fst (Prod.snd (val (v12 x3 x4 x5 (Int.tmod (IntKind.wrap IntKind.i64 x0) (IntKind.wrap IntKind.i64 (Int.tdiv (↑(List.length x4) : Int) x3))) x1)))) (Prod.fst (Prod.snd (Prod.snd (val (v12 x3 x4 x5 (Int.tmod (IntKind.wrap IntKind.i64 x0) (IntKind.wrap IntKind.i64 (Int.tdiv (↑(List.length x4) : Int) x3))) x1))))))) (cond (val (v24 (Prod.fst (val (v12 x3 x4 x5 (Int.tmod (IntKind.wrap IntKind.i64 x0) (IntKind.wrap IntKind.i64 (Int.tdiv (↑(List.length x4) : Int) x3))) x1))) (Prod.fst (Prod.snd (val (v12 x3 x4 x5 (Int.tmod (IntKind.wrap IntKind.i64 x0) (IntKind.wrap IntKind.i64 (Int.tdiv (↑(List.length x4) : Int) x3))) x1)))) (Prod.fst (Prod.snd (Prod.snd (val (v12 x3 x4 x5 (Int.tmod (IntKind.wrap IntKind.i64 x0) (IntKind.wrap IntKind.i64 (Int.tdiv (↑(List.length x4) : Int) x3))) x1))))))) (cX .ret { sl := [(6, .v (.sc (.bool (true))))], lo := [], h := [], n0 := 0 }) (cond (Prod.snd (Prod.snd (Prod.snd (val (v12 x3 x4 x5 (Int.tmod (IntKind.wrap IntKind.i64 x0) (IntKind.wrap IntKind.i64 (Int.tdiv (↑(List.length x4) : Int) x3))) x1)))) == (1 : Int)) (cond ((↑(List.length x1) : Int) != x3) (cX .ret { sl := [(6, .v (.sc (.bool (true))))], lo := [], h := [], n0 := 0 }) (cond (Prod.snd (Prod.snd (Prod.snd (val (v12 x3 x4 x5 (Int.tmod (IntKind.wrap IntKind.i64 x0) (IntKind.wrap IntKind.i64 (Int.tdiv (↑(List.length x4) : Int) x3))) x1)))) == (10 : Int)) (cX .ret { sl := [(6, .v (.sc (.bool ((↑(List.length x5) : Int) == (64 : Int)))))], lo := [], h := [], n0 := 0 }) (cX .ret { sl := [(6, .v (.sc (.bool (false))))], lo := [], h := [], n0 := 0 }))) (cond (Prod.snd (Prod.snd (Prod.snd (val (v12 x3 x4 x5 (Int.tmod (IntKind.wrap IntKind.i64 x0) (IntKind.wrap IntKind.i64 (Int.tdiv (↑(List.length x4) : Int) x3))) x1)))) == (10 : Int)) (cX .ret { sl := [(6, .v (.sc (.bool ((↑(List.length x5) : Int) == (64 : Int)))))], lo := [], h := [], n0 := 0 }) (cX .ret { sl := [(6, .v (.sc (.bool (false))))], lo := [], h := [], n0 := 0 })))) none) (cond (Prod.snd (Prod.snd (Prod.snd (val (v12 x3 x4 x5 (Int.tmod (IntKind.wrap IntKind.i64 x0) (IntKind.wrap IntKind.i64 (Int.tdiv (↑(List.length x4) : Int) x3))) x1)))) == (1 : Int)) (cond ((↑(List.length x1) : Int) != x3) (cX .ret { sl := [(6, .v (.sc (.bool (true))))], lo := [], h := [], n0 := 0 }) (cond (Prod.snd (Prod.snd (Prod.snd (val (v12 x3 x4 x5 (Int.tmod (IntKind.wrap IntKind.i64 x0) (IntKind.wrap IntKind.i64 (Int.tdiv (↑(List.length x4) : Int) x3))) x1)))) == (10 : Int)) (cX .ret { sl := [(6, .v (.sc (.bool ((↑(List.length x5) : Int) == (64 : Int)))))], lo := [], h := [], n0 := 0 }) (cX .ret { sl := [(6, .v (.sc (.bool (false))))], lo := [], h := [], n0 := 0 }))) (cond (Prod.snd (Prod.snd (Prod.snd (val (v12 x3 x4 x5 (Int.tmod (IntKind.wrap IntKind.i64 x0) (IntKind.wrap IntKind.i64 (Int.tdiv (↑(List.length x4) : Int) x3))) x1)))) == (10 : Int)) (cX .ret { sl := [(6, .v (.sc (.bool ((↑(List.length x5) : Int) == (64 : Int)))))], lo := [], h := [], n0 := 0 }) (cX .ret { sl := [(6, .v (.sc (.bool (false))))], lo := [], h := [], n0 := 0 })))) (cX .ret { sl := [(6, .v (.sc (.bool (false))))], lo := [], h := [], n0 := 0 })) none))) none)) none))) none) none) none) none) none) := by kernel_rfl
theorem lL4_36_0 (k : Nat) (x0 : Int) (x1 : (List Int)) (x2 : Bool) (x3 : Int) (x4 : (List Int)) (x5 : (List (Int × (List Int)))) (r : Bool) : L4_36_0 x0 x1 x2 x3 x4 x5 = some r → pieceBody Try.prog (mkTn base o33 t33 4) (TM.evF Try.prog (mkTn base o33 t33) dOk (k + 40)) dOk (k + 40) (codeAt Try.prog (tn0 4) 4 36) 0 36 { sl := [(1, .v (.sc (.int .u8 (x0)))), (2, .v (.sc (.d 5 (.int .u8) (x1)))), (3, .l 3 0), (7, .v (.sc (.bool (x2))))], lo := [(3, [.int .i64 (x3), .d 5 (.int .u8) (x4), .d 44 (.pair (.int .i64) (.list 5 (.int .u8))) (x5)])], h := [], n0 := 0 } (fun e s => some (e, s)) = some (xL4_36_0 x0 x1 x2 x3 x4 x5 r) := by
  rw [bL4_36_0]
  unfold L4_36_0
  cases (ok (v27 x3 x4 x5)) with
  | true =>
    cases (decide (x3 ≠ (0 : Int))) with
    | true =>
      cases (decide (IntKind.wrap IntKind.i64 (Int.tdiv (↑(List.length x4) : Int) x3) ≠ (0 : Int))) with
      | true =>
        cases (ok (v12 x3 x4 x5 (Int.tmod (IntKind.wrap IntKind.i64 x0) (IntKind.wrap IntKind.i64 (Int.tdiv (↑(List.length x4) : Int) x3))) x1)) with
        | true =>
          cases (ok (v14 x3 x4 x5)) with
          | true =>
            cases (Prod.snd (Prod.snd (Prod.snd (val (v14 x3 x4 x5)))) != (0 : Int)) with
            | true =>
              intro h; cases h; rfl
            | false =>
              cases ((↑(List.length (Prod.fst (Prod.snd (Prod.snd (val (v14 x3 x4 x5)))))) : Int) != (0 : Int)) with
              | true =>
                intro h; cases h; rfl
              | false =>
                cases (ok (v24 (Prod.fst (val (v14 x3 x4 x5))) (Prod.fst (Prod.snd (val (v14 x3 x4 x5)))) (Prod.fst (Prod.snd (Prod.snd (val (v14 x3 x4 x5))))))) with
                | true =>
                  cases (!val (v24 (Prod.fst (val (v14 x3 x4 x5))) (Prod.fst (Prod.snd (val (v14 x3 x4 x5)))) (Prod.fst (Prod.snd (Prod.snd (val (v14 x3 x4 x5))))))) with
                  | true =>
                    intro h; cases h; rfl
                  | false =>
                    cases (ok (v22 x3 x4 x5 x3 x4 (val (v27 x3 x4 x5)))) with
                    | true =>
                      cases (!val (v22 x3 x4 x5 x3 x4 (val (v27 x3 x4 x5)))) with
                      | true =>
                        intro h; cases h; rfl
                      | false =>
                        cases (isL (L4_0_0 FU x1 x2 (Int.tmod (IntKind.wrap IntKind.i64 x0) (IntKind.wrap IntKind.i64 (Int.tdiv (↑(List.length x4) : Int) x3))) (Prod.snd (Prod.snd (Prod.snd (val (v12 x3 x4 x5 (Int.tmod (IntKind.wrap IntKind.i64 x0) (IntKind.wrap IntKind.i64 (Int.tdiv (↑(List.length x4) : Int) x3))) x1))))) (IntKind.wrap IntKind.i64 (Int.tdiv (↑(List.length x4) : Int) x3)) (0 : Int) x3 x4 x5 (Prod.fst (val (v12 x3 x4 x5 (Int.tmod (IntKind.wrap IntKind.i64 x0) (IntKind.wrap IntKind.i64 (Int.tdiv (↑(List.length x4) : Int) x3))) x1))) (Prod.fst (Prod.snd (val (v12 x3 x4 x5 (Int.tmod (IntKind.wrap IntKind.i64 x0) (IntKind.wrap IntKind.i64 (Int.tdiv (↑(List.length x4) : Int) x3))) x1)))) (Prod.fst (Prod.snd (Prod.snd (val (v12 x3 x4 x5 (Int.tmod (IntKind.wrap IntKind.i64 x0) (IntKind.wrap IntKind.i64 (Int.tdiv (↑(List.length x4) : Int) x3))) x1))))) (Prod.fst (val (v14 x3 x4 x5))) (Prod.fst (Prod.snd (val (v14 x3 x4 x5)))) (Prod.fst (Prod.snd (Prod.snd (val (v14 x3 x4 x5))))))) with
                        | true =>
                          intro h; cases h; rfl
                        | false =>
                          cases (ok (getR (L4_0_0 FU x1 x2 (Int.tmod (IntKind.wrap IntKind.i64 x0) (IntKind.wrap IntKind.i64 (Int.tdiv (↑(List.length x4) : Int) x3))) (Prod.snd (Prod.snd (Prod.snd (val (v12 x3 x4 x5 (Int.tmod (IntKind.wrap IntKind.i64 x0) (IntKind.wrap IntKind.i64 (Int.tdiv (↑(List.length x4) : Int) x3))) x1))))) (IntKind.wrap IntKind.i64 (Int.tdiv (↑(List.length x4) : Int) x3)) (0 : Int) x3 x4 x5 (Prod.fst (val (v12 x3 x4 x5 (Int.tmod (IntKind.wrap IntKind.i64 x0) (IntKind.wrap IntKind.i64 (Int.tdiv (↑(List.length x4) : Int) x3))) x1))) (Prod.fst (Prod.snd (val (v12 x3 x4 x5 (Int.tmod (IntKind.wrap IntKind.i64 x0) (IntKind.wrap IntKind.i64 (Int.tdiv (↑(List.length x4) : Int) x3))) x1)))) (Prod.fst (Prod.snd (Prod.snd (val (v12 x3 x4 x5 (Int.tmod (IntKind.wrap IntKind.i64 x0) (IntKind.wrap IntKind.i64 (Int.tdiv (↑(List.length x4) : Int) x3))) x1))))) (Prod.fst (val (v14 x3 x4 x5))) (Prod.fst (Prod.snd (val (v14 x3 x4 x5)))) (Prod.fst (Prod.snd (Prod.snd (val (v14 x3 x4 x5)))))))) with
                          | true =>
                            cases x2 with
                            | true =>
                              cases (Prod.snd (Prod.snd (Prod.snd (val (v12 x3 x4 x5 (Int.tmod (IntKind.wrap IntKind.i64 x0) (IntKind.wrap IntKind.i64 (Int.tdiv (↑(List.length x4) : Int) x3))) x1)))) == (0 : Int)) with
                              | true =>
                                cases (ok (v24 (Prod.fst (val (v12 x3 x4 x5 (Int.tmod (IntKind.wrap IntKind.i64 x0) (IntKind.wrap IntKind.i64 (Int.tdiv (↑(List.length x4) : Int) x3))) x1))) (Prod.fst (Prod.snd (val (v12 x3 x4 x5 (Int.tmod (IntKind.wrap IntKind.i64 x0) (IntKind.wrap IntKind.i64 (Int.tdiv (↑(List.length x4) : Int) x3))) x1)))) (Prod.fst (Prod.snd (Prod.snd (val (v12 x3 x4 x5 (Int.tmod (IntKind.wrap IntKind.i64 x0) (IntKind.wrap IntKind.i64 (Int.tdiv (↑(List.length x4) : Int) x3))) x1))))))) with
                                | true =>
                                  cases (val (v24 (Prod.fst (val (v12 x3 x4 x5 (Int.tmod (IntKind.wrap IntKind.i64 x0) (IntKind.wrap IntKind.i64 (Int.tdiv (↑(List.length x4) : Int) x3))) x1))) (Prod.fst (Prod.snd (val (v12 x3 x4 x5 (Int.tmod (IntKind.wrap IntKind.i64 x0) (IntKind.wrap IntKind.i64 (Int.tdiv (↑(List.length x4) : Int) x3))) x1)))) (Prod.fst (Prod.snd (Prod.snd (val (v12 x3 x4 x5 (Int.tmod (IntKind.wrap IntKind.i64 x0) (IntKind.wrap IntKind.i64 (Int.tdiv (↑(List.length x4) : Int) x3))) x1))))))) with
                                  | true =>
                                    intro h; cases h; rfl
                                  | false =>
                                    cases (Prod.snd (Prod.snd (Prod.snd (val (v12 x3 x4 x5 (Int.tmod (IntKind.wrap IntKind.i64 x0) (IntKind.wrap IntKind.i64 (Int.tdiv (↑(List.length x4) : Int) x3))) x1)))) == (1 : Int)) with
                                    | true =>
                                      cases ((↑(List.length x1) : Int) != x3) with
                                      | true =>
                                        intro h; cases h; rfl
                                      | false =>
                                        cases (Prod.snd (Prod.snd (Prod.snd (val (v12 x3 x4 x5 (Int.tmod (IntKind.wrap IntKind.i64 x0) (IntKind.wrap IntKind.i64 (Int.tdiv (↑(List.length x4) : Int) x3))) x1)))) == (10 : Int)) with
                                        | true =>
                                          intro h; cases h; rfl
                                        | false =>
                                          intro h; cases h; rfl
                                    | false =>
                                      cases (Prod.snd (Prod.snd (Prod.snd (val (v12 x3 x4 x5 (Int.tmod (IntKind.wrap IntKind.i64 x0) (IntKind.wrap IntKind.i64 (Int.tdiv (↑(List.length x4) : Int) x3))) x1)))) == (10 : Int)) with
                                      | true =>
                                        intro h; cases h; rfl
                                      | false =>
                                        intro h; cases h; rfl
                                | false =>
                                  intro h; cases h
                              | false =>
                                cases (Prod.snd (Prod.snd (Prod.snd (val (v12 x3 x4 x5 (Int.tmod (IntKind.wrap IntKind.i64 x0) (IntKind.wrap IntKind.i64 (Int.tdiv (↑(List.length x4) : Int) x3))) x1)))) == (1 : Int)) with
                                | true =>
                                  cases ((↑(List.length x1) : Int) != x3) with
                                  | true =>
                                    intro h; cases h; rfl
                                  | false =>
                                    cases (Prod.snd (Prod.snd (Prod.snd (val (v12 x3 x4 x5 (Int.tmod (IntKind.wrap IntKind.i64 x0) (IntKind.wrap IntKind.i64 (Int.tdiv (↑(List.length x4) : Int) x3))) x1)))) == (10 : Int)) with
                                    | true =>
                                      intro h; cases h; rfl
                                    | false =>
                                      intro h; cases h; rfl
                                | false =>
                                  cases (Prod.snd (Prod.snd (Prod.snd (val (v12 x3 x4 x5 (Int.tmod (IntKind.wrap IntKind.i64 x0) (IntKind.wrap IntKind.i64 (Int.tdiv (↑(List.length x4) : Int) x3))) x1)))) == (10 : Int)) with
                                  | true =>
                                    intro h; cases h; rfl
                                  | false =>
                                    intro h; cases h; rfl
                            | false =>
                              intro h; cases h; rfl
                          | false =>
                            intro h; cases h
                    | false =>
                      intro h; cases h
                | false =>
                  intro h; cases h
          | false =>
            intro h; cases h
        | false =>
          intro h; cases h
      | false =>
        intro h; cases h
    | false =>
      intro h; cases h
  | false =>
    intro h; cases h
def sL4_36_0 : TellS := fun S => match S with
  | { sl := [(1, .v (.sc (.int .u8 (x0)))), (2, .v (.sc (.d 5 (.int .u8) (x1)))), (3, .l 3 0), (7, .v (.sc (.bool (x2))))], lo := [(3, [.int .i64 (x3), .d 5 (.int .u8) (x4), .d 44 (.pair (.int .i64) (.list 5 (.int .u8))) (x5)])], h := [], n0 := 0 } => some [(ok (L4_36_0 x0 x1 x2 x3 x4 x5), .ret, { sl := [(6, .v (.sc (.bool ((val (L4_36_0 x0 x1 x2 x3 x4 x5))))))], lo := [], h := [], n0 := 0 })]
  | _ => none
theorem wL4_36_0 : NewTell Try.prog dOk base o33 t33 ((4, 36), sL4_36_0) := by
  refine ⟨(codeAt Try.prog (tn0 4) 4 36), 0, by kernel_rfl, ?_⟩
  intro S alts e S' h1 h2
  have h1 : sL4_36_0 S = some alts := h1
  unfold sL4_36_0 at h1
  split at h1
  · cases h1
    obtain ⟨hc0, rfl, rfl⟩ := pick_one h2
    exact ⟨0 + 40, (evPiece_code rfl).trans (lL4_36_0 0 _ _ _ _ _ _ _ (ok_val hc0))⟩
  · cases h1
def o34 : OrcT := o33
def t34 : TellT := ((4, 36), sL4_36_0) :: t33
abbrev tn34 : FuncId → TAn := mkTn base o34 t34
theorem ok34 : TnOk Try.prog tn34 (mkA base) dOk := by
  have h0 : TnOk Try.prog (mkTn base o33 t33) (mkA base) dOk := ok33
  have h1 := tn_tell h0 h0 (p := ((4, 36), sL4_36_0)) wL4_36_0
  exact h1
end Go.Proofs.Ytchgjjgdgbecmaa
set_option maxRecDepth 1000000
set_option linter.unusedVariables false
set_option maxHeartbeats 4000000
namespace Go.Proofs.Ytchgjjgdgbecmaa
open Go Go.AM Go.TM Go.Proofs
/-- queuelablaw35.DiskReads -/
def v4 (x0 : Int) (x1 : (List Int)) (x2 : (List (Int × (List Int)))) (x3 : Int) (x4 : (List Int)) : Option Bool := (cond (ok (v26 x0 x1 x2)) (cond (!val (v26 x0 x1 x2)) (some (true)) (cond (ok (L4_36_0 x3 x4 (val v10) x0 x1 x2)) (some (val (L4_36_0 x3 x4 (val v10) x0 x1 x2))) none)) none)
theorem ev4 (x0 : Int) (x1 : (List Int)) (x2 : (List (Int × (List Int)))) (x3 : Int) (x4 : (List Int)) : fnBody Try.prog (mkTn base o34 t34 4) (TM.evF Try.prog (mkTn base o34 t34) dOk 40) dOk 40 4 [.agg [.int .i64 (x0), .d 5 (.int .u8) (x1), .d 44 (.pair (.int .i64) (.list 5 (.int .u8))) (x2)], .sc (.int .u8 (x3)), .sc (.d 5 (.int .u8) (x4))] [] = (v4 x0 x1 x2 x3 x4).bind fun r => some ([.sc (.bool (r))], []) := by
  have h : fnBody Try.prog (mkTn base o34 t34 4) (TM.evF Try.prog (mkTn base o34 t34) dOk 40) dOk 40 4 [.agg [.int .i64 (x0), .d 5 (.int .u8) (x1), .d 44 (.pair (.int .i64) (.list 5 (.int .u8))) (x2)], .sc (.int .u8 (x3)), .sc (.d 5 (.int .u8) (x4))] [] = (cond (ok (v26 x0 x1 x2)) (cond (!val (v26 x0 x1 x2)) (some ([.sc (.bool (true))], [])) (cond (ok (L4_36_0 x3 x4 (val v10) x0 x1 x2)) (some ([.sc (.bool (val (L4_36_0 x3 x4 (val v10) x0 x1 x2)))], [])) none)) none) := by kernel_rfl
  rw [h]
  unfold v4
  cases (ok (v26 x0 x1 x2)) with
  | true =>
    cases (!val (v26 x0 x1 x2)) with
    | true =>
      rfl
    | false =>
      cases (ok (L4_36_0 x3 x4 (val v10) x0 x1 x2)) with
      | true =>
        rfl
      | false =>
        rfl
  | false =>
    rfl
def sv4 : OrcS := fun al H => match al, H with
  | [.agg [.int .i64 (x0), .d 5 (.int .u8) (x1), .d 44 (.pair (.int .i64) (.list 5 (.int .u8))) (x2)], .sc (.int .u8 (x3)), .sc (.d 5 (.int .u8) (x4))], [] => some (ok (v4 x0 x1 x2 x3 x4), [.sc (.bool ((val (v4 x0 x1 x2 x3 x4))))], [])
  | _, _ => none
theorem wv4 : NewOrc Try.prog dOk base o34 t34 (4, sv4) := by
  intro al H q hq hq1
  have hq : sv4 al H = some q := hq
  unfold sv4 at hq
  split at hq
  · cases hq
    exact ⟨41, (ev4 _ _ _ _ _).trans (ok_bind hq1)⟩
  · cases hq
def o35 : OrcT := (4, sv4) :: o34
def t35 : TellT := t34
abbrev tn35 : FuncId → TAn := mkTn base o35 t35
theorem ok35 : TnOk Try.prog tn35 (mkA base) dOk := by
  have h0 : TnOk Try.prog (mkTn base o34 t34) (mkA base) dOk := ok34
  have h1 := tn_orc h0 h0 (p := (4, sv4)) wv4
  exact h1
end Go.Proofs.Ytchgjjgdgbecmaa
