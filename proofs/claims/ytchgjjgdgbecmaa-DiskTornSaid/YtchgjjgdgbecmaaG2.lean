/- What some functions and loops come to: printed and checked. Written by a program of ours. -/
import Derived.Test.YtchgjjgdgbecmaaG1
set_option linter.all false
set_option linter.constructorNameAsVariable false
set_option linter.unnecessarySimpa false
set_option linter.unusedSimpArgs false
set_option linter.unusedVariables false
set_option maxRecDepth 1000000
set_option linter.unusedVariables false
set_option maxHeartbeats 4000000
namespace Go.Proofs.Ytchgjjgdgbecmaa
open Go Go.AM Go.TM Go.Proofs
/-- queuelablaw35.DiskReads: the piece 36 -/
def L4_36_0 (x0 : Int) (x1 : (List Int)) (x2 : Bool) (x3 : Int) (x4 : (List Int)) (x5 : (List (Int × (List Int)))) : Option Bool := (cond (ok (v27 x3 x4 x5)) (cond (decide (x3 ≠ (0 : Int))) (cond (decide (IntKind.wrap IntKind.i64 (Int.tdiv (↑(List.length x4) : Int) x3) ≠ (0 : Int))) (cond (ok (v12 x3 x4 x5 (Int.tmod (IntKind.wrap IntKind.i64 x0) (IntKind.wrap IntKind.i64 (Int.tdiv (↑(List.length x4) : Int) x3))) x1)) (cond (ok (v14 x3 x4 x5)) (cond (Prod.snd (Prod.snd (Prod.snd (val (v14 x3 x4 x5)))) != (0 : Int)) (some (false)) (cond ((↑(List.length (Prod.fst (Prod.snd (Prod.snd (val (v14 x3 x4 x5)))))) : Int) != (0 : Int)) (some (false)) (cond (ok (v24 (Prod.fst (val (v14 x3 x4 x5))) (Prod.fst (Prod.snd (val (v14 x3 x4 x5)))) (Prod.fst (Prod.snd (Prod.snd (val (v14 x3 x4 x5))))))) (cond (!val (v24 (Prod.fst (val (v14 x3 x4 x5))) (Prod.fst (Prod.snd (val (v14 x3 x4 x5)))) (Prod.fst (Prod.snd (Prod.snd (val (v14 x3 x4 x5))))))) (some (false)) (cond (ok (v22 x3 x4 x5 x3 x4 (val (v27 x3 x4 x5)))) (cond (!val (v22 x3 x4 x5 x3 x4 (val (v27 x3 x4 x5)))) (some (false)) (cond (isL (L4_0_0 FU x1 x2 (Int.tmod (IntKind.wrap IntKind.i64 x0) (IntKind.wrap IntKind.i64 (Int.tdiv (↑(List.length x4) : Int) x3))) (Prod.snd (Prod.snd (Prod.snd (val (v12 x3 x4 x5 (Int.tmod (IntKind.wrap IntKind.i64 x0) (IntKind.wrap IntKind.i64 (Int.tdiv (↑(List.length x4) : Int) x3))) x1))))) (IntKind.wrap IntKind.i64 (Int.tdiv (↑(List.length x4) : Int) x3)) (0 : Int) x3 x4 x5 (Prod.fst (val (v12 x3 x4 x5 (Int.tmod (IntKind.wrap IntKind.i64 x0) (IntKind.wrap IntKind.i64 (Int.tdiv (↑(List.length x4) : Int) x3))) x1))) (Prod.fst (Prod.snd (val (v12 x3 x4 x5 (Int.tmod (IntKind.wrap IntKind.i64 x0) (IntKind.wrap IntKind.i64 (Int.tdiv (↑(List.length x4) : Int) x3))) x1)))) (Prod.fst (Prod.snd (Prod.snd (val (v12 x3 x4 x5 (Int.tmod (IntKind.wrap IntKind.i64 x0) (IntKind.wrap IntKind.i64 (Int.tdiv (↑(List.length x4) : Int) x3))) x1))))) (Prod.fst (val (v14 x3 x4 x5))) (Prod.fst (Prod.snd (val (v14 x3 x4 x5)))) (Prod.fst (Prod.snd (Prod.snd (val (v14 x3 x4 x5))))))) (some (getL (L4_0_0 FU x1 x2 (Int.tmod (IntKind.wrap IntKind.i64 x0) (IntKind.wrap IntKind.i64 (Int.tdiv (↑(List.length x4) : Int) x3))) (Prod.snd (Prod.snd (Prod.snd (val (v12 x3 x4 x5 (Int.tmod (IntKind.wrap IntKind.i64 x0) (IntKind.wrap IntKind.i64 (Int.tdiv (↑(List.length x4) : Int) x3))) x1))))) (IntKind.wrap IntKind.i64 (Int.tdiv (↑(List.length x4) : Int) x3)) (0 : Int) x3 x4 x5 (Prod.fst (val (v12 x3 x4 x5 (Int.tmod (IntKind.wrap IntKind.i64 x0) (IntKind.wrap IntKind.i64 (Int.tdiv (↑(List.length x4) : Int) x3))) x1))) (Prod.fst (Prod.snd (val (v12 x3 x4 x5 (Int.tmod (IntKind.wrap IntKind.i64 x0) (IntKind.wrap IntKind.i64 (Int.tdiv (↑(List.length x4) : Int) x3))) x1)))) (Prod.fst (Prod.snd (Prod.snd (val (v12 x3 x4 x5 (Int.tmod (IntKind.wrap IntKind.i64 x0) (IntKind.wrap IntKind.i64 (Int.tdiv (↑(List.length x4) : Int) x3))) x1))))) (Prod.fst (val (v14 x3 x4 x5))) (Prod.fst (Prod.snd (val (v14 x3 x4 x5)))) (Prod.fst (Prod.snd (Prod.snd (val (v14 x3 x4 x5)))))))) (cond (ok (getR (L4_0_0 FU x1 x2 (Int.tmod (IntKind.wrap IntKind.i64 x0) (IntKind.wrap IntKind.i64 (Int.tdiv (↑(List.length x4) : Int) x3))) (Prod.snd (Prod.snd (Prod.snd (val (v12 x3 x4 x5 (Int.tmod (IntKind.wrap IntKind.i64 x0) (IntKind.wrap IntKind.i64 (Int.tdiv (↑(List.length x4) : Int) x3))) x1))))) (IntKind.wrap IntKind.i64 (Int.tdiv (↑(List.length x4) : Int) x3)) (0 : Int) x3 x4 x5 (Prod.fst (val (v12 x3 x4 x5 (Int.tmod (IntKind.wrap IntKind.i64 x0) (IntKind.wrap IntKind.i64 (Int.tdiv (↑(List.length x4) : Int) x3))) x1))) (Prod.fst (Prod.snd (val (v12 x3 x4 x5 (Int.tmod (IntKind.wrap IntKind.i64 x0) (IntKind.wrap IntKind.i64 (Int.tdiv (↑(List.length x4) : Int) x3))) x1)))) (Prod.fst (Prod.snd (Prod.snd (val (v12 x3 x4 x5 (Int.tmod (IntKind.wrap IntKind.i64 x0) (IntKind.wrap IntKind.i64 (Int.tdiv (↑(List.length x4) : Int) x3))) x1))))) (Prod.fst (val (v14 x3 x4 x5))) (Prod.fst (Prod.snd (val (v14 x3 x4 x5)))) (Prod.fst (Prod.snd (Prod.snd (val (v14 x3 x4 x5)))))))) (cond (x2) (cond (Prod.snd (Prod.snd (Prod.snd (val (v12 x3 x4 x5 (Int.tmod (IntKind.wrap IntKind.i64 x0) (IntKind.wrap IntKind.i64 (Int.tdiv (↑(List.length x4) : Int) x3))) x1)))) == (0 : Int)) (cond (ok (v24 (Prod.fst (val (v12 x3 x4 x5 (Int.tmod (IntKind.wrap IntKind.i64 x0) (IntKind.wrap IntKind.i64 (Int.tdiv (↑(List.length x4) : Int) x3))) x1))) (Prod.fst (Prod.snd (val (v12 x3 x4 x5 (Int.tmod (IntKind.wrap IntKind.i64 x0) (IntKind.wrap IntKind.i64 (Int.tdiv (↑(List.length x4) : Int) x3))) x1)))) (Prod.fst (Prod.snd (Prod.snd (val (v12 x3 x4 x5 (Int.tmod (IntKind.wrap IntKind.i64 x0) (IntKind.wrap IntKind.i64 (Int.tdiv (↑(List.length x4) : Int) x3))) x1))))))) (cond (val (v24 (Prod.fst (val (v12 x3 x4 x5 (Int.tmod (IntKind.wrap IntKind.i64 x0) (IntKind.wrap IntKind.i64 (Int.tdiv (↑(List.length x4) : Int) x3))) x1))) (Prod.fst (Prod.snd (val (v12 x3 x4 x5 (Int.tmod (IntKind.wrap IntKind.i64 x0) (IntKind.wrap IntKind.i64 (Int.tdiv (↑(List.length x4) : Int) x3))) x1)))) (Prod.fst (Prod.snd (Prod.snd (val (v12 x3 x4 x5 (Int.tmod (IntKind.wrap IntKind.i64 x0) (IntKind.wrap IntKind.i64 (Int.tdiv (↑(List.length x4) : Int) x3))) x1))))))) (some (true)) (cond (Prod.snd (Prod.snd (Prod.snd (val (v12 x3 x4 x5 (Int.tmod (IntKind.wrap IntKind.i64 x0) (IntKind.wrap IntKind.i64 (Int.tdiv (↑(List.length x4) : Int) x3))) x1)))) == (1 : Int)) (cond ((↑(List.length x1) : Int) != x3) (some (true)) (cond (Prod.snd (Prod.snd (Prod.snd (val (v12 x3 x4 x5 (Int.tmod (IntKind.wrap IntKind.i64 x0) (IntKind.wrap IntKind.i64 (Int.tdiv (↑(List.length x4) : Int) x3))) x1)))) == (10 : Int)) (some ((↑(List.length x5) : Int) == (64 : Int))) (some (false)))) (cond (Prod.snd (Prod.snd (Prod.snd (val (v12 x3 x4 x5 (Int.tmod (IntKind.wrap IntKind.i64 x0) (IntKind.wrap IntKind.i64 (Int.tdiv (↑(List.length x4) : Int) x3))) x1)))) == (10 : Int)) (some ((↑(List.length x5) : Int) == (64 : Int))) (some (false))))) none) (cond (Prod.snd (Prod.snd (Prod.snd (val (v12 x3 x4 x5 (Int.tmod (IntKind.wrap IntKind.i64 x0) (IntKind.wrap IntKind.i64 (Int.tdiv (↑(List.length x4) : Int) x3))) x1)))) == (1 : Int)) (cond ((↑(List.length x1) : Int) != x3) (some (true)) (cond (Prod.snd (Prod.snd (Prod.snd (val (v12 x3 x4 x5 (Int.tmod (IntKind.wrap IntKind.i64 x0) (IntKind.wrap IntKind.i64 (Int.tdiv (↑(List.length x4) : Int) x3))) x1)))) == (10 : Int)) (some ((↑(List.length x5) : Int) == (64 : Int))) (some (false)))) (cond (Prod.snd (Prod.snd (Prod.snd (val (v12 x3 x4 x5 (Int.tmod (IntKind.wrap IntKind.i64 x0) (IntKind.wrap IntKind.i64 (Int.tdiv (↑(List.length x4) : Int) x3))) x1)))) == (10 : Int)) (some ((↑(List.length x5) : Int) == (64 : Int))) (some (false))))) (some (false))) none))) none)) none))) none) none) none) none) none)
def xL4_36_0 (x0 : Int) (x1 : (List Int)) (x2 : Bool) (x3 : Int) (x4 : (List Int)) (x5 : (List (Int × (List Int)))) : Bool → Ex × CS := fun r => (.ret, { sl := [(6, .v (.sc (.bool (r))))], lo := [], h := [], n0 := 0 })
theorem bL4_36_0 (k : Nat) (cX : Ex → CS → Option (Ex × CS)) (x0 : Int) (x1 : (List Int)) (x2 : Bool) (x3 : Int) (x4 : (List Int)) (x5 : (List (Int × (List Int)))) : pieceBody Try.prog (mkTn base o33 t33 4) (TM.evF Try.prog (mkTn base o33 t33) dOk (k + 40)) dOk (k + 40) (codeAt Try.prog (tn0 4) 4 36) 0 36 { sl := [(1, .v (.sc (.int .u8 (x0)))), (2, .v (.sc (.d 5 (.int .u8) (x1)))), (3, .l 3 0), (7, .v (.sc (.bool (x2))))], lo := [(3, [.int .i64 (x3), .d 5 (.int .u8) (x4), .d 44 (.pair (.int .i64) (.list 5 (.int .u8))) (x5)])], h := [], n0 := 0 } cX = (cond (ok (v27 x3 x4 x5)) (cond (decide (x3 ≠ (0 : Int))) (cond (decide (IntKind.wrap IntKind.i64 (Int.tdiv (↑(List.length x4) : Int) x3) ≠ (0 : Int))) (cond (ok (v12 x3 x4 x5 (Int.tmod (IntKind.wrap IntKind.i64 x0) (IntKind.wrap IntKind.i64 (Int.tdiv (↑(List.length x4) : Int) x3))) x1)) (cond (ok (v14 x3 x4 x5)) (cond (Prod.snd (Prod.snd (Prod.snd (val (v14 x3 x4 x5)))) != (0 : Int)) (cX .ret { sl := [(6, .v (.sc (.bool (false))))], lo := [], h := [], n0 := 0 }) (cond ((↑(List.length (Prod.fst (Prod.snd (Prod.snd (val (v14 x3 x4 x5)))))) : Int) != (0 : Int)) (cX .ret { sl := [(6, .v (.sc (.bool (false))))], lo := [], h := [], n0 := 0 }) (cond (ok (v24 (Prod.fst (val (v14 x3 x4 x5))) (Prod.fst (Prod.snd (val (v14 x3 x4 x5)))) (Prod.fst (Prod.snd (Prod.snd (val (v14 x3 x4 x5))))))) (cond (!val (v24 (Prod.fst (val (v14 x3 x4 x5))) (Prod.fst (Prod.snd (val (v14 x3 x4 x5)))) (Prod.fst (Prod.snd (Prod.snd (val (v14 x3 x4 x5))))))) (cX .ret { sl := [(6, .v (.sc (.bool (false))))], lo := [], h := [], n0 := 0 }) (cond (ok (v22 x3 x4 x5 x3 x4 (val (v27 x3 x4 x5)))) (cond (!val (v22 x3 x4 x5 x3 x4 (val (v27 x3 x4 x5)))) (cX .ret { sl := [(6, .v (.sc (.bool (false))))], lo := [], h := [], n0 := 0 }) (cond (isL (L4_0_0 FU x1 x2 (Int.tmod (IntKind.wrap IntKind.i64 x0) (IntKind.wrap IntKind.i64 (Int.tdiv (↑(List.length x4) : Int) x3))) (Prod.snd (Prod.snd (Prod.snd (val (v12 x3 x4 x5 (Int.tmod (IntKind.wrap IntKind.i64 x0) (IntKind.wrap IntKind.i64 (Int.tdiv (↑(List.length x4) : Int) x3))) x1))))) (IntKind.wrap IntKind.i64 (Int.tdiv (↑(List.length x4) : Int) x3)) (0 : Int) x3 x4 x5 (Prod.fst (val (v12 x3 x4 x5 (Int.tmod (IntKind.wrap IntKind.i64 x0) (IntKind.wrap IntKind.i64 (Int.tdiv (↑(List.length x4) : Int) x3))) x1))) (Prod.fst (Prod.snd (val (v12 x3 x4 x5 (Int.tmod (IntKind.wrap IntKind.i64 x0) (IntKind.wrap IntKind.i64 (Int.tdiv (↑(List.length x4) : Int) x3))) x1)))) (Prod.fst (Prod.snd (Prod.snd (val (v12 x3 x4 x5 (Int.tmod (IntKind.wrap IntKind.i64 x0) (IntKind.wrap IntKind.i64 (Int.tdiv (↑(List.length x4) : Int) x3))) x1))))) (Prod.fst (val (v14 x3 x4 x5))) (Prod.fst (Prod.snd (val (v14 x3 x4 x5)))) (Prod.fst (Prod.snd (Prod.snd (val (v14 x3 x4 x5))))))) (cX .ret { sl := [(6, .v (.sc (.bool (getL (L4_0_0 FU x1 x2 (Int.tmod (IntKind.wrap IntKind.i64 x0) (IntKind.wrap IntKind.i64 (Int.tdiv (↑(List.length x4) : Int) x3))) (Prod.snd (Prod.snd (Prod.snd (val (v12 x3 x4 x5 (Int.tmod (IntKind.wrap IntKind.i64 x0) (IntKind.wrap IntKind.i64 (Int.tdiv (↑(List.length x4) : Int) x3))) x1))))) (IntKind.wrap IntKind.i64 (Int.tdiv (↑(List.length x4) : Int) x3)) (0 : Int) x3 x4 x5 (Prod.fst (val (v12 x3 x4 x5 (Int.tmod (IntKind.wrap IntKind.i64 x0) (IntKind.wrap IntKind.i64 (Int.tdiv (↑(List.length x4) : Int) x3))) x1))) (Prod.fst (Prod.snd (val (v12 x3 x4 x5 (Int.tmod (IntKind.wrap IntKind.i64 x0) (IntKind.wrap IntKind.i64 (Int.tdiv (↑(List.length x4) : Int) x3))) x1)))) (Prod.fst (Prod.snd (Prod.snd (val (v12 x3 x4 x5 (Int.tmod (IntKind.wrap IntKind.i64 x0) (IntKind.wrap IntKind.i64 (Int.tdiv (↑(List.length x4) : Int) x3))) x1))))) (Prod.fst (val (v14 x3 x4 x5))) (Prod.fst (Prod.snd (val (v14 x3 x4 x5)))) (Prod.fst (Prod.snd (Prod.snd (val (v14 x3 x4 x5))))))))))], lo := [], h := [], n0 := 0 }) (cond (ok (getR (L4_0_0 FU x1 x2 (Int.tmod (IntKind.wrap IntKind.i64 x0) (IntKind.wrap IntKind.i64 (Int.tdiv (↑(List.length x4) : Int) x3))) (Prod.snd (Prod.snd (Prod.snd (val (v12 x3 x4 x5 (Int.tmod (IntKind.wrap IntKind.i64 x0) (IntKind.wrap IntKind.i64 (Int.tdiv (↑(List.length x4) : Int) x3))) x1))))) (IntKind.wrap IntKind.i64 (Int.tdiv (↑(List.length x4) : Int) x3)) (0 : Int) x3 x4 x5 (Prod.fst (val (v12 x3 x4 x5 (Int.tmod (IntKind.wrap IntKind.i64 x0) (IntKind.wrap IntKind.i64 (Int.tdiv (↑(List.length x4) : Int) x3))) x1))) (Prod.fst (Prod.snd (val (v12 x3 x4 x5 (Int.tmod (IntKind.wrap IntKind.i64 x0) (IntKind.wrap IntKind.i64 (Int.tdiv (↑(List.length x4) : Int) x3))) x1)))) (Prod.fst (Prod.snd (Prod.snd (val (v12 x3 x4 x5 (Int.tmod (IntKind.wrap IntKind.i64 x0) (IntKind.wrap IntKind.i64 (Int.tdiv (↑(List.length x4) : Int) x3))) x1))))) (Prod.fst (val (v14 x3 x4 x5))) (Prod.fst (Prod.snd (val (v14 x3 x4 x5)))) (Prod.fst (Prod.snd (Prod.snd (val (v14 x3 x4 x5)))))))) (cond (x2) (cond (Prod.snd (Prod.snd (Prod.snd (val (v12 x3 x4 x5 (Int.tmod (IntKind.wrap IntKind.i64 x0) (IntKind.wrap IntKind.i64 (Int.tdiv (↑(List.length x4) : Int) x3))) x1)))) == (0 : Int)) (cond (ok (v24 (Prod.fst (val (v12 x3 x4 x5 (Int.tmod (IntKind.wrap IntKind.i64 x0) (IntKind.wrap IntKind.i64 (Int.tdiv (↑(List.length x4) : Int) x3))) x1))) (Prod.fst (Prod.snd (val (v12 x3 x4 x5 (Int.tmod (IntKind.wrap IntKind.i64 x0) (IntKind.wrap IntKind.i64 (Int.tdiv (↑(List.length x4) : Int) x3))) x1)))) (Prod.fst (Prod.snd (Prod.snd (val (v12 x3 x4 x5 (Int.tmod (IntKind.wrap IntKind.i64 x0) (IntKind.wrap IntKind.i64 (Int.tdiv (↑(List.length x4) : Int) x3))) x1))))))) (cond (val (v24 (Prod.fst (val (v12 x3 x4 x5 (Int.tmod (IntKind.wrap IntKind.i64 x0) (IntKind.wrap IntKind.i64 (Int.tdiv (↑(List.length x4) : Int) x3))) x1))) (Prod.fst (Prod.snd (val (v12 x3 x4 x5 (Int.tmod (IntKind.wrap IntKind.i64 x0) (IntKind.wrap IntKind.i64 (Int.tdiv (↑(List.length x4) : Int) x3))) x1)))) (Prod.fst (Prod.snd (Prod.snd (val (v12 x3 x4 x5 (Int.tmod (IntKind.wrap IntKind.i64 x0) (IntKind.wrap IntKind.i64 (Int.tdiv (↑(List.length x4) : Int) x3))) x1))))))) (cX .ret { sl := [(6, .v (.sc (.bool (true))))], lo := [], h := [], n0 := 0 }) (cond (Prod.snd (Prod.snd (Prod.snd (val (v12 x3 x4 x5 (Int.tmod (IntKind.wrap IntKind.i64 x0) (IntKind.wrap IntKind.i64 (Int.tdiv (↑(List.length x4) : Int) x3))) x1)))) == (1 : Int)) (cond ((↑(List.length x1) : Int) != x3) (cX .ret { sl := [(6, .v (.sc (.bool (true))))], lo := [], h := [], n0 := 0 }) (cond (Prod.snd (Prod.snd (Prod.snd (val (v12 x3 x4 x5 (Int.tmod (IntKind.wrap IntKind.i64 x0) (IntKind.wrap IntKind.i64 (Int.tdiv (↑(List.length x4) : Int) x3))) x1)))) == (10 : Int)) (cX .ret { sl := [(6, .v (.sc (.bool ((↑(List.length x5) : Int) == (64 : Int)))))], lo := [], h := [], n0 := 0 }) (cX .ret { sl := [(6, .v (.sc (.bool (false))))], lo := [], h := [], n0 := 0 }))) (cond (Prod.snd (Prod.snd (Prod.snd (val (v12 x3 x4 x5 (Int.tmod (IntKind.wrap IntKind.i64 x0) (IntKind.wrap IntKind.i64 (Int.tdiv (↑(List.length x4) : Int) x3))) x1)))) == (10 : Int)) (cX .ret { sl := [(6, .v (.sc (.bool ((↑(List.length x5) : Int) == (64 : Int)))))], lo := [], h := [], n0 := 0 }) (cX .ret { sl := [(6, .v (.sc (.bool (false))))], lo := [], h := [], n0 := 0 })))) none) (cond (Prod.snd (Prod.snd (Prod.snd (val (v12 x3 x4 x5 (Int.tmod (IntKind.wrap IntKind.i64 x0) (IntKind.wrap IntKind.i64 (Int.tdiv (↑(List.length x4) : Int) x3))) x1)))) == (1 : Int)) (cond ((↑(List.length x1) : Int) != x3) (cX .ret { sl := [(6, .v (.sc (.bool (true))))], lo := [], h := [], n0 := 0 }) (cond (Prod.snd (Prod.snd (Prod.snd (val (v12 x3 x4 x5 (Int.tmod (IntKind.wrap IntKind.i64 x0) (IntKind.wrap IntKind.i64 (Int.tdiv (↑(List.length x4) : Int) x3))) x1)))) == (10 : Int)) (cX .ret { sl := [(6, .v (.sc (.bool ((↑(List.length x5) : Int) == (64 : Int)))))], lo := [], h := [], n0 := 0 }) (cX .ret { sl := [(6, .v (.sc (.bool (false))))], lo := [], h := [], n0 := 0 }))) (cond (Prod.snd (Prod.snd (Prod.snd (val (v12 x3 x4 x5 (Int.tmod (IntKind.wrap IntKind.i64 x0) (IntKind.wrap IntKind.i64 (Int.tdiv (↑(List.length x4) : Int) x3))) x1)))) == (10 : Int)) (cX .ret { sl := [(6, .v (.sc (.bool ((↑(List.length x5) : Int) == (64 : Int)))))], lo := [], h := [], n0 := 0 }) (cX .ret { sl := [(6, .v (.sc (.bool (false))))], lo := [], h := [], n0 := 0 })))) (cX .ret { sl := [(6, .v (.sc (.bool (false))))], lo := [], h := [], n0 := 0 })) none))) none)) none))) none) none) none) none) none) := by kernel_rfl
theorem lL4_36_0 (k : Nat) (x0 : Int) (x1 : (List Int)) (x2 : Bool) (x3 : Int) (x4 : (List Int)) (x5 : (List (Int × (List Int)))) (r : Bool) : L4_36_0 x0 x1 x2 x3 x4 x5 = some r → pieceBody Try.prog (mkTn base o33 t33 4) (TM.evF Try.prog (mkTn base o33 t33) dOk (k + 40)) dOk (k + 40) (codeAt Try.prog (tn0 4) 4 36) 0 36 { sl := [(1, .v (.sc (.int .u8 (x0)))), (2, .v (.sc (.d 5 (.int .u8) (x1)))), (3, .l 3 0), (7, .v (.sc (.bool (x2))))], lo := [(3, [.int .i64 (x3), .d 5 (.int .u8) (x4), .d 44 (.pair (.int .i64) (.list 5 (.int .u8))) (x5)])], h := [], n0 := 0 } (fun e s => some (e, s)) = some (xL4_36_0 x0 x1 x2 x3 x4 x5 r) := by
  rw [bL4_36_0]
  unfold L4_36_0
  cases (ok (v27 x3 x4 x5)) with
  | true =>
    cases (decide (x3 ≠ (0 : Int))) with
    | true =>
      cases (decide (IntKind.wrap IntKind.i64 (Int.tdiv (↑(List.length x4) : Int) x3) ≠ (0 : Int))) with
      | true =>
        cases (ok (v12 x3 x4 x5 (Int.tmod (IntKind.wrap IntKind.i64 x0) (IntKind.wrap IntKind.i64 (Int.tdiv (↑(List.length x4) : Int) x3))) x1)) with
        | true =>
          cases (ok (v14 x3 x4 x5)) with
          | true =>
            cases (Prod.snd (Prod.snd (Prod.snd (val (v14 x3 x4 x5)))) != (0 : Int)) with
            | true =>
              intro h; cases h; rfl
            | false =>
              cases ((↑(List.length (Prod.fst (Prod.snd (Prod.snd (val (v14 x3 x4 x5)))))) : Int) != (0 : Int)) with
              | true =>
                intro h; cases h; rfl
              | false =>
                cases (ok (v24 (Prod.fst (val (v14 x3 x4 x5))) (Prod.fst (Prod.snd (val (v14 x3 x4 x5)))) (Prod.fst (Prod.snd (Prod.snd (val (v14 x3 x4 x5))))))) with
                | true =>
                  cases (!val (v24 (Prod.fst (val (v14 x3 x4 x5))) (Prod.fst (Prod.snd (val (v14 x3 x4 x5)))) (Prod.fst (Prod.snd (Prod.snd (val (v14 x3 x4 x5))))))) with
                  | true =>
                    intro h; cases h; rfl
                  | false =>
                    cases (ok (v22 x3 x4 x5 x3 x4 (val (v27 x3 x4 x5)))) with
                    | true =>
                      cases (!val (v22 x3 x4 x5 x3 x4 (val (v27 x3 x4 x5)))) with
                      | true =>
                        intro h; cases h; rfl
                      | false =>
                        cases (isL (L4_0_0 FU x1 x2 (Int.tmod (IntKind.wrap IntKind.i64 x0) (IntKind.wrap IntKind.i64 (Int.tdiv (↑(List.length x4) : Int) x3))) (Prod.snd (Prod.snd (Prod.snd (val (v12 x3 x4 x5 (Int.tmod (IntKind.wrap IntKind.i64 x0) (IntKind.wrap IntKind.i64 (Int.tdiv (↑(List.length x4) : Int) x3))) x1))))) (IntKind.wrap IntKind.i64 (Int.tdiv (↑(List.length x4) : Int) x3)) (0 : Int) x3 x4 x5 (Prod.fst (val (v12 x3 x4 x5 (Int.tmod (IntKind.wrap IntKind.i64 x0) (IntKind.wrap IntKind.i64 (Int.tdiv (↑(List.length x4) : Int) x3))) x1))) (Prod.fst (Prod.snd (val (v12 x3 x4 x5 (Int.tmod (IntKind.wrap IntKind.i64 x0) (IntKind.wrap IntKind.i64 (Int.tdiv (↑(List.length x4) : Int) x3))) x1)))) (Prod.fst (Prod.snd (Prod.snd (val (v12 x3 x4 x5 (Int.tmod (IntKind.wrap IntKind.i64 x0) (IntKind.wrap IntKind.i64 (Int.tdiv (↑(List.length x4) : Int) x3))) x1))))) (Prod.fst (val (v14 x3 x4 x5))) (Prod.fst (Prod.snd (val (v14 x3 x4 x5)))) (Prod.fst (Prod.snd (Prod.snd (val (v14 x3 x4 x5))))))) with
                        | true =>
                          intro h; cases h; rfl
                        | false =>
                          cases (ok (getR (L4_0_0 FU x1 x2 (Int.tmod (IntKind.wrap IntKind.i64 x0) (IntKind.wrap IntKind.i64 (Int.tdiv (↑(List.length x4) : Int) x3))) (Prod.snd (Prod.snd (Prod.snd (val (v12 x3 x4 x5 (Int.tmod (IntKind.wrap IntKind.i64 x0) (IntKind.wrap IntKind.i64 (Int.tdiv (↑(List.length x4) : Int) x3))) x1))))) (IntKind.wrap IntKind.i64 (Int.tdiv (↑(List.length x4) : Int) x3)) (0 : Int) x3 x4 x5 (Prod.fst (val (v12 x3 x4 x5 (Int.tmod (IntKind.wrap IntKind.i64 x0) (IntKind.wrap IntKind.i64 (Int.tdiv (↑(List.length x4) : Int) x3))) x1))) (Prod.fst (Prod.snd (val (v12 x3 x4 x5 (Int.tmod (IntKind.wrap IntKind.i64 x0) (IntKind.wrap IntKind.i64 (Int.tdiv (↑(List.length x4) : Int) x3))) x1)))) (Prod.fst (Prod.snd (Prod.snd (val (v12 x3 x4 x5 (Int.tmod (IntKind.wrap IntKind.i64 x0) (IntKind.wrap IntKind.i64 (Int.tdiv (↑(List.length x4) : Int) x3))) x1))))) (Prod.fst (val (v14 x3 x4 x5))) (Prod.fst (Prod.snd (val (v14 x3 x4 x5)))) (Prod.fst (Prod.snd (Prod.snd (val (v14 x3 x4 x5)))))))) with
                          | true =>
                            cases x2 with
                            | true =>
                              cases (Prod.snd (Prod.snd (Prod.snd (val (v12 x3 x4 x5 (Int.tmod (IntKind.wrap IntKind.i64 x0) (IntKind.wrap IntKind.i64 (Int.tdiv (↑(List.length x4) : Int) x3))) x1)))) == (0 : Int)) with
                              | true =>
                                cases (ok (v24 (Prod.fst (val (v12 x3 x4 x5 (Int.tmod (IntKind.wrap IntKind.i64 x0) (IntKind.wrap IntKind.i64 (Int.tdiv (↑(List.length x4) : Int) x3))) x1))) (Prod.fst (Prod.snd (val (v12 x3 x4 x5 (Int.tmod (IntKind.wrap IntKind.i64 x0) (IntKind.wrap IntKind.i64 (Int.tdiv (↑(List.length x4) : Int) x3))) x1)))) (Prod.fst (Prod.snd (Prod.snd (val (v12 x3 x4 x5 (Int.tmod (IntKind.wrap IntKind.i64 x0) (IntKind.wrap IntKind.i64 (Int.tdiv (↑(List.length x4) : Int) x3))) x1))))))) with
                                | true =>
                                  cases (val (v24 (Prod.fst (val (v12 x3 x4 x5 (Int.tmod (IntKind.wrap IntKind.i64 x0) (IntKind.wrap IntKind.i64 (Int.tdiv (↑(List.length x4) : Int) x3))) x1))) (Prod.fst (Prod.snd (val (v12 x3 x4 x5 (Int.tmod (IntKind.wrap IntKind.i64 x0) (IntKind.wrap IntKind.i64 (Int.tdiv (↑(List.length x4) : Int) x3))) x1)))) (Prod.fst (Prod.snd (Prod.snd (val (v12 x3 x4 x5 (Int.tmod (IntKind.wrap IntKind.i64 x0) (IntKind.wrap IntKind.i64 (Int.tdiv (↑(List.length x4) : Int) x3))) x1))))))) with
                                  | true =>
                                    intro h; cases h; rfl
                                  | false =>
                                    cases (Prod.snd (Prod.snd (Prod.snd (val (v12 x3 x4 x5 (Int.tmod (IntKind.wrap IntKind.i64 x0) (IntKind.wrap IntKind.i64 (Int.tdiv (↑(List.length x4) : Int) x3))) x1)))) == (1 : Int)) with
                                    | true =>
                                      cases ((↑(List.length x1) : Int) != x3) with
                                      | true =>
                                        intro h; cases h; rfl
                                      | false =>
                                        cases (Prod.snd (Prod.snd (Prod.snd (val (v12 x3 x4 x5 (Int.tmod (IntKind.wrap IntKind.i64 x0) (IntKind.wrap IntKind.i64 (Int.tdiv (↑(List.length x4) : Int) x3))) x1)))) == (10 : Int)) with
                                        | true =>
                                          intro h; cases h; rfl
                                        | false =>
                                          intro h; cases h; rfl
                                    | false =>
                                      cases (Prod.snd (Prod.snd (Prod.snd (val (v12 x3 x4 x5 (Int.tmod (IntKind.wrap IntKind.i64 x0) (IntKind.wrap IntKind.i64 (Int.tdiv (↑(List.length x4) : Int) x3))) x1)))) == (10 : Int)) with
                                      | true =>
                                        intro h; cases h; rfl
                                      | false =>
                                        intro h; cases h; rfl
                                | false =>
                                  intro h; cases h
                              | false =>
                                cases (Prod.snd (Prod.snd (Prod.snd (val (v12 x3 x4 x5 (Int.tmod (IntKind.wrap IntKind.i64 x0) (IntKind.wrap IntKind.i64 (Int.tdiv (↑(List.length x4) : Int) x3))) x1)))) == (1 : Int)) with
                                | true =>
                                  cases ((↑(List.length x1) : Int) != x3) with
                                  | true =>
                                    intro h; cases h; rfl
                                  | false =>
                                    cases (Prod.snd (Prod.snd (Prod.snd (val (v12 x3 x4 x5 (Int.tmod (IntKind.wrap IntKind.i64 x0) (IntKind.wrap IntKind.i64 (Int.tdiv (↑(List.length x4) : Int) x3))) x1)))) == (10 : Int)) with
                                    | true =>
                                      intro h; cases h; rfl
                                    | false =>
                                      intro h; cases h; rfl
                                | false =>
                                  cases (Prod.snd (Prod.snd (Prod.snd (val (v12 x3 x4 x5 (Int.tmod (IntKind.wrap IntKind.i64 x0) (IntKind.wrap IntKind.i64 (Int.tdiv (↑(List.length x4) : Int) x3))) x1)))) == (10 : Int)) with
                                  | true =>
                                    intro h; cases h; rfl
                                  | false =>
                                    intro h; cases h; rfl
                            | false =>
                              intro h; cases h; rfl
                          | false =>
                            intro h; cases h
                    | false =>
                      intro h; cases h
                | false =>
                  intro h; cases h
          | false =>
            intro h; cases h
        | false =>
          intro h; cases h
      | false =>
        intro h; cases h
    | false =>
      intro h; cases h
  | false =>
    intro h; cases h
def sL4_36_0 : TellS := fun S => match S with
  | { sl := [(1, .v (.sc (.int .u8 (x0)))), (2, .v (.sc (.d 5 (.int .u8) (x1)))), (3, .l 3 0), (7, .v (.sc (.bool (x2))))], lo := [(3, [.int .i64 (x3), .d 5 (.int .u8) (x4), .d 44 (.pair (.int .i64) (.list 5 (.int .u8))) (x5)])], h := [], n0 := 0 } => some [(ok (L4_36_0 x0 x1 x2 x3 x4 x5), .ret, { sl := [(6, .v (.sc (.bool ((val (L4_36_0 x0 x1 x2 x3 x4 x5))))))], lo := [], h := [], n0 := 0 })]
  | _ => none
theorem wL4_36_0 : NewTell Try.prog dOk base o33 t33 ((4, 36), sL4_36_0) := by
  refine ⟨(codeAt Try.prog (tn0 4) 4 36), 0, by kernel_rfl, ?_⟩
  intro S alts e S' h1 h2
  have h1 : sL4_36_0 S = some alts := h1
  unfold sL4_36_0 at h1
  split at h1
  · cases h1
    obtain ⟨hc0, rfl, rfl⟩ := pick_one h2
    exact ⟨0 + 40, (evPiece_code rfl).trans (lL4_36_0 0 _ _ _ _ _ _ _ (ok_val hc0))⟩
  · cases h1
def o34 : OrcT := o33
def t34 : TellT := ((4, 36), sL4_36_0) :: t33
abbrev tn34 : FuncId → TAn := mkTn base o34 t34
theorem ok34 : TnOk Try.prog tn34 (mkA base) dOk := by
  have h0 : TnOk Try.prog (mkTn base o33 t33) (mkA base) dOk := ok33
  have h1 := tn_tell h0 h0 (p := ((4, 36), sL4_36_0)) wL4_36_0
  exact h1
end Go.Proofs.Ytchgjjgdgbecmaa
set_option maxRecDepth 1000000
set_option linter.unusedVariables false
set_option maxHeartbeats 4000000
namespace Go.Proofs.Ytchgjjgdgbecmaa
open Go Go.AM Go.TM Go.Proofs
/-- queuelablaw35.DiskReads -/
def v4 (x0 : Int) (x1 : (List Int)) (x2 : (List (Int × (List Int)))) (x3 : Int) (x4 : (List Int)) : Option Bool := (cond (ok (v26 x0 x1 x2)) (cond (!val (v26 x0 x1 x2)) (some (true)) (cond (ok (L4_36_0 x3 x4 (val v10) x0 x1 x2)) (some (val (L4_36_0 x3 x4 (val v10) x0 x1 x2))) none)) none)
theorem ev4 (x0 : Int) (x1 : (List Int)) (x2 : (List (Int × (List Int)))) (x3 : Int) (x4 : (List Int)) : fnBody Try.prog (mkTn base o34 t34 4) (TM.evF Try.prog (mkTn base o34 t34) dOk 40) dOk 40 4 [.agg [.int .i64 (x0), .d 5 (.int .u8) (x1), .d 44 (.pair (.int .i64) (.list 5 (.int .u8))) (x2)], .sc (.int .u8 (x3)), .sc (.d 5 (.int .u8) (x4))] [] = (v4 x0 x1 x2 x3 x4).bind fun r => some ([.sc (.bool (r))], []) := by
  have h : fnBody Try.prog (mkTn base o34 t34 4) (TM.evF Try.prog (mkTn base o34 t34) dOk 40) dOk 40 4 [.agg [.int .i64 (x0), .d 5 (.int .u8) (x1), .d 44 (.pair (.int .i64) (.list 5 (.int .u8))) (x2)], .sc (.int .u8 (x3)), .sc (.d 5 (.int .u8) (x4))] [] = (cond (ok (v26 x0 x1 x2)) (cond (!val (v26 x0 x1 x2)) (some ([.sc (.bool (true))], [])) (cond (ok (L4_36_0 x3 x4 (val v10) x0 x1 x2)) (some ([.sc (.bool (val (L4_36_0 x3 x4 (val v10) x0 x1 x2)))], [])) none)) none) := by kernel_rfl
  rw [h]
  unfold v4
  cases (ok (v26 x0 x1 x2)) with
  | true =>
    cases (!val (v26 x0 x1 x2)) with
    | true =>
      rfl
    | false =>
      cases (ok (L4_36_0 x3 x4 (val v10) x0 x1 x2)) with
      | true =>
        rfl
      | false =>
        rfl
  | false =>
    rfl
def sv4 : OrcS := fun al H => match al, H with
  | [.agg [.int .i64 (x0), .d 5 (.int .u8) (x1), .d 44 (.pair (.int .i64) (.list 5 (.int .u8))) (x2)], .sc (.int .u8 (x3)), .sc (.d 5 (.int .u8) (x4))], [] => some (ok (v4 x0 x1 x2 x3 x4), [.sc (.bool ((val (v4 x0 x1 x2 x3 x4))))], [])
  | _, _ => none
theorem wv4 : NewOrc Try.prog dOk base o34 t34 (4, sv4) := by
  intro al H q hq hq1
  have hq : sv4 al H = some q := hq
  unfold sv4 at hq
  split at hq
  · cases hq
    exact ⟨41, (ev4 _ _ _ _ _).trans (ok_bind hq1)⟩
  · cases hq
def o35 : OrcT := (4, sv4) :: o34
def t35 : TellT := t34
abbrev tn35 : FuncId → TAn := mkTn base o35 t35
theorem ok35 : TnOk Try.prog tn35 (mkA base) dOk := by
  have h0 : TnOk Try.prog (mkTn base o34 t34) (mkA base) dOk := ok34
  have h1 := tn_orc h0 h0 (p := (4, sv4)) wv4
  exact h1
end Go.Proofs.Ytchgjjgdgbecmaa
set_option maxRecDepth 1000000
set_option linter.unusedVariables false
set_option maxHeartbeats 4000000
namespace Go.Proofs.Ytchgjjgdgbecmaa
open Go Go.AM Go.TM Go.Proofs
/-- queuelablaw35.DiskSafe: the loop 0 -/
def L9_0_0 : Nat → (List Int) → (List Bool) → Int → Int → Bool → Int → Int → (List (List Int)) → Int → Int → Int → (List Int) → (List (Int × (List Int))) → Option (Int × (List Int) × (List (Int × (List Int))))
  | 0, _, _, _, _, _, _, _, _, _, _, _, _, _ => none
  | n + 1, x0, x1, x2, x3, x4, x5, x6, x7, x8, x9, x10, x11, x12 => (cond (decide (x9 < x8)) (cond (decide ((0 : Int) ≤ x9)) (cond (decide (x9 < (↑(List.length x7) : Int))) (cond (decide (x5 ≠ (0 : Int))) (cond (Int.tmod x9 x5 != x6) (cond (ok (v12 x10 x11 x12 (Int.tmod x9 x5) (List.getD x7 (Int.toNat x9) []))) (cond (Prod.snd (Prod.snd (Prod.snd (val (v12 x10 x11 x12 (Int.tmod x9 x5) (List.getD x7 (Int.toNat x9) []))))) == (0 : Int)) (L9_0_0 n (x0) (x1) (x2) (x3) (x4) (x5) (x6) (x7) (x8) (IntKind.wrap IntKind.i64 (x9 + (1 : Int))) (Prod.fst (val (v12 x10 x11 x12 (Int.tmod x9 x5) (List.getD x7 (Int.toNat x9) [])))) (Prod.fst (Prod.snd (val (v12 x10 x11 x12 (Int.tmod x9 x5) (List.getD x7 (Int.toNat x9) []))))) (Prod.fst (Prod.snd (Prod.snd (val (v12 x10 x11 x12 (Int.tmod x9 x5) (List.getD x7 (Int.toNat x9) []))))))) (L9_0_0 n (x0) (x1) (x2) (x3) (x4) (x5) (x6) (x7) (x8) (IntKind.wrap IntKind.i64 (x9 + (1 : Int))) (x10) (x11) (x12))) none) (L9_0_0 n (x0) (x1) (x2) (x3) (x4) (x5) (x6) (x7) (x8) (IntKind.wrap IntKind.i64 (x9 + (1 : Int))) (x10) (x11) (x12))) none) none) none) (some (x10, x11, x12)))
theorem qL9_0_0 (n : Nat) (x0 : (List Int)) (x1 : (List Bool)) (x2 : Int) (x3 : Int) (x4 : Bool) (x5 : Int) (x6 : Int) (x7 : (List (List Int))) (x8 : Int) (x9 : Int) (x10 : Int) (x11 : (List Int)) (x12 : (List (Int × (List Int)))) : L9_0_0 (n + 1) x0 x1 x2 x3 x4 x5 x6 x7 x8 x9 x10 x11 x12 = (cond (decide (x9 < x8)) (cond (decide ((0 : Int) ≤ x9)) (cond (decide (x9 < (↑(List.length x7) : Int))) (cond (decide (x5 ≠ (0 : Int))) (cond (Int.tmod x9 x5 != x6) (cond (ok (v12 x10 x11 x12 (Int.tmod x9 x5) (List.getD x7 (Int.toNat x9) []))) (cond (Prod.snd (Prod.snd (Prod.snd (val (v12 x10 x11 x12 (Int.tmod x9 x5) (List.getD x7 (Int.toNat x9) []))))) == (0 : Int)) (L9_0_0 n (x0) (x1) (x2) (x3) (x4) (x5) (x6) (x7) (x8) (IntKind.wrap IntKind.i64 (x9 + (1 : Int))) (Prod.fst (val (v12 x10 x11 x12 (Int.tmod x9 x5) (List.getD x7 (Int.toNat x9) [])))) (Prod.fst (Prod.snd (val (v12 x10 x11 x12 (Int.tmod x9 x5) (List.getD x7 (Int.toNat x9) []))))) (Prod.fst (Prod.snd (Prod.snd (val (v12 x10 x11 x12 (Int.tmod x9 x5) (List.getD x7 (Int.toNat x9) []))))))) (L9_0_0 n (x0) (x1) (x2) (x3) (x4) (x5) (x6) (x7) (x8) (IntKind.wrap IntKind.i64 (x9 + (1 : Int))) (x10) (x11) (x12))) none) (L9_0_0 n (x0) (x1) (x2) (x3) (x4) (x5) (x6) (x7) (x8) (IntKind.wrap IntKind.i64 (x9 + (1 : Int))) (x10) (x11) (x12))) none) none) none) (some (x10, x11, x12))) := by rfl
def xL9_0_0 (x0 : (List Int)) (x1 : (List Bool)) (x2 : Int) (x3 : Int) (x4 : Bool) (x5 : Int) (x6 : Int) (x7 : (List (List Int))) (x8 : Int) (x9 : Int) (x10 : Int) (x11 : (List Int)) (x12 : (List (Int × (List Int)))) : (Int × (List Int) × (List (Int × (List Int)))) → Ex × CS := fun r => ((.exit 0), { sl := [(2, .v (.sc (.d 5 (.int .u8) (x0)))), (4, .v (.sc (.d 4 .bool (x1)))), (5, .v (.sc (.int .i64 (x2)))), (6, .v (.sc (.int .i64 (x3)))), (15, .v (.sc (.bool (x4)))), (17, .v (.sc (.int .i64 (x6)))), (22, .l 22 0)], lo := [(22, [.int .i64 (r.1), .d 5 (.int .u8) (r.2.1), .d 44 (.pair (.int .i64) (.list 5 (.int .u8))) (r.2.2)])], h := [], n0 := 0 })
theorem bL9_0_0 (k : Nat) (cN : CS → Option (Ex × CS)) (cX : Ex → CS → Option (Ex × CS)) (x0 : (List Int)) (x1 : (List Bool)) (x2 : Int) (x3 : Int) (x4 : Bool) (x5 : Int) (x6 : Int) (x7 : (List (List Int))) (x8 : Int) (x9 : Int) (x10 : Int) (x11 : (List Int)) (x12 : (List (Int × (List Int)))) : loopBody Try.prog (mkTn base o35 t35 9) (TM.evF Try.prog (mkTn base o35 t35) dOk (k + 40)) dOk (k + 40) (codeAt Try.prog (tn0 9) 9 0) 0 0 { sl := [(2, .v (.sc (.d 5 (.int .u8) (x0)))), (4, .v (.sc (.d 4 .bool (x1)))), (5, .v (.sc (.int .i64 (x2)))), (6, .v (.sc (.int .i64 (x3)))), (15, .v (.sc (.bool (x4)))), (16, .v (.sc (.int .i64 (x5)))), (17, .v (.sc (.int .i64 (x6)))), (22, .l 22 0), (83, .v (.sc (.d 22 (.list 5 (.int .u8)) (x7)))), (84, .v (.sc (.int .i64 (x8)))), (85, .v (.sc (.int .i64 (x9))))], lo := [(22, [.int .i64 (x10), .d 5 (.int .u8) (x11), .d 44 (.pair (.int .i64) (.list 5 (.int .u8))) (x12)])], h := [], n0 := 0 } cN cX = (cond (decide (x9 < x8)) (cond (decide ((0 : Int) ≤ x9)) (cond (decide (x9 < (↑(List.length x7) : Int))) (cond (decide (x5 ≠ (0 : Int))) (cond (Int.tmod x9 x5 != x6) (cond (ok (v12 x10 x11 x12 (Int.tmod x9 x5) (List.getD x7 (Int.toNat x9) []))) (cond (Prod.snd (Prod.snd (Prod.snd (val (v12 x10 x11 x12 (Int.tmod x9 x5) (List.getD x7 (Int.toNat x9) []))))) == (0 : Int)) (cN { sl := [(2, .v (.sc (.d 5 (.int .u8) (x0)))), (4, .v (.sc (.d 4 .bool (x1)))), (5, .v (.sc (.int .i64 (x2)))), (6, .v (.sc (.int .i64 (x3)))), (15, .v (.sc (.bool (x4)))), (16, .v (.sc (.int .i64 (x5)))), (17, .v (.sc (.int .i64 (x6)))), (22, .l 22 0), (83, .v (.sc (.d 22 (.list 5 (.int .u8)) (x7)))), (84, .v (.sc (.int .i64 (x8)))), (85, .v (.sc (.int .i64 (IntKind.wrap IntKind.i64 (x9 + (1 : Int))))))], lo := [(22, [.int .i64 (Prod.fst (val (v12 x10 x11 x12 (Int.tmod x9 x5) (List.getD x7 (Int.toNat x9) [])))), .d 5 (.int .u8) (Prod.fst (Prod.snd (val (v12 x10 x11 x12 (Int.tmod x9 x5) (List.getD x7 (Int.toNat x9) []))))), .d 44 (.pair (.int .i64) (.list 5 (.int .u8))) (Prod.fst (Prod.snd (Prod.snd (val (v12 x10 x11 x12 (Int.tmod x9 x5) (List.getD x7 (Int.toNat x9) []))))))])], h := [], n0 := 0 }) (cN { sl := [(2, .v (.sc (.d 5 (.int .u8) (x0)))), (4, .v (.sc (.d 4 .bool (x1)))), (5, .v (.sc (.int .i64 (x2)))), (6, .v (.sc (.int .i64 (x3)))), (15, .v (.sc (.bool (x4)))), (16, .v (.sc (.int .i64 (x5)))), (17, .v (.sc (.int .i64 (x6)))), (22, .l 22 0), (83, .v (.sc (.d 22 (.list 5 (.int .u8)) (x7)))), (84, .v (.sc (.int .i64 (x8)))), (85, .v (.sc (.int .i64 (IntKind.wrap IntKind.i64 (x9 + (1 : Int))))))], lo := [(22, [.int .i64 (x10), .d 5 (.int .u8) (x11), .d 44 (.pair (.int .i64) (.list 5 (.int .u8))) (x12)])], h := [], n0 := 0 })) none) (cN { sl := [(2, .v (.sc (.d 5 (.int .u8) (x0)))), (4, .v (.sc (.d 4 .bool (x1)))), (5, .v (.sc (.int .i64 (x2)))), (6, .v (.sc (.int .i64 (x3)))), (15, .v (.sc (.bool (x4)))), (16, .v (.sc (.int .i64 (x5)))), (17, .v (.sc (.int .i64 (x6)))), (22, .l 22 0), (83, .v (.sc (.d 22 (.list 5 (.int .u8)) (x7)))), (84, .v (.sc (.int .i64 (x8)))), (85, .v (.sc (.int .i64 (IntKind.wrap IntKind.i64 (x9 + (1 : Int))))))], lo := [(22, [.int .i64 (x10), .d 5 (.int .u8) (x11), .d 44 (.pair (.int .i64) (.list 5 (.int .u8))) (x12)])], h := [], n0 := 0 })) none) none) none) (cX (.exit 0) { sl := [(2, .v (.sc (.d 5 (.int .u8) (x0)))), (4, .v (.sc (.d 4 .bool (x1)))), (5, .v (.sc (.int .i64 (x2)))), (6, .v (.sc (.int .i64 (x3)))), (15, .v (.sc (.bool (x4)))), (17, .v (.sc (.int .i64 (x6)))), (22, .l 22 0)], lo := [(22, [.int .i64 (x10), .d 5 (.int .u8) (x11), .d 44 (.pair (.int .i64) (.list 5 (.int .u8))) (x12)])], h := [], n0 := 0 })) := by kernel_rfl
theorem lL9_0_0 (k m : Nat) : ∀ (n : Nat) (x0 : (List Int)) (x1 : (List Bool)) (x2 : Int) (x3 : Int) (x4 : Bool) (x5 : Int) (x6 : Int) (x7 : (List (List Int))) (x8 : Int) (x9 : Int) (x10 : Int) (x11 : (List Int)) (x12 : (List (Int × (List Int)))) (r : (Int × (List Int) × (List (Int × (List Int))))), L9_0_0 n x0 x1 x2 x3 x4 x5 x6 x7 x8 x9 x10 x11 x12 = some r → loopE Try.prog (mkTn base o35 t35 9) (TM.evF Try.prog (mkTn base o35 t35) dOk (k + 40)) dOk (k + 40) (codeAt Try.prog (tn0 9) 9 0) 0 0 (n + m) { sl := [(2, .v (.sc (.d 5 (.int .u8) (x0)))), (4, .v (.sc (.d 4 .bool (x1)))), (5, .v (.sc (.int .i64 (x2)))), (6, .v (.sc (.int .i64 (x3)))), (15, .v (.sc (.bool (x4)))), (16, .v (.sc (.int .i64 (x5)))), (17, .v (.sc (.int .i64 (x6)))), (22, .l 22 0), (83, .v (.sc (.d 22 (.list 5 (.int .u8)) (x7)))), (84, .v (.sc (.int .i64 (x8)))), (85, .v (.sc (.int .i64 (x9))))], lo := [(22, [.int .i64 (x10), .d 5 (.int .u8) (x11), .d 44 (.pair (.int .i64) (.list 5 (.int .u8))) (x12)])], h := [], n0 := 0 } = some (xL9_0_0 x0 x1 x2 x3 x4 x5 x6 x7 x8 x9 x10 x11 x12 r) := by
  intro n
  induction n with
  | zero => intro _ _ _ _ _ _ _ _ _ _ _ _ _ r h; cases h
  | succ n ih =>
    intro x0 x1 x2 x3 x4 x5 x6 x7 x8 x9 x10 x11 x12 r
    rw [show n + 1 + m = n + m + 1 by omega, loop_step, bL9_0_0, qL9_0_0]
    cases (decide (x9 < x8)) with
    | true =>
      cases (decide ((0 : Int) ≤ x9)) with
      | true =>
        cases (decide (x9 < (↑(List.length x7) : Int))) with
        | true =>
          cases (decide (x5 ≠ (0 : Int))) with
          | true =>
            cases (Int.tmod x9 x5 != x6) with
            | true =>
              cases (ok (v12 x10 x11 x12 (Int.tmod x9 x5) (List.getD x7 (Int.toNat x9) []))) with
              | true =>
                cases (Prod.snd (Prod.snd (Prod.snd (val (v12 x10 x11 x12 (Int.tmod x9 x5) (List.getD x7 (Int.toNat x9) []))))) == (0 : Int)) with
                | true =>
                  exact ih _ _ _ _ _ _ _ _ _ _ _ _ _ r
                | false =>
                  exact ih _ _ _ _ _ _ _ _ _ _ _ _ _ r
              | false =>
                intro h; cases h
            | false =>
              exact ih _ _ _ _ _ _ _ _ _ _ _ _ _ r
          | false =>
            intro h; cases h
        | false =>
          intro h; cases h
      | false =>
        intro h; cases h
    | false =>
      intro h; cases h; rfl
def sL9_0_0 : TellS := fun S => match S with
  | { sl := [(2, .v (.sc (.d 5 (.int .u8) (x0)))), (4, .v (.sc (.d 4 .bool (x1)))), (5, .v (.sc (.int .i64 (x2)))), (6, .v (.sc (.int .i64 (x3)))), (15, .v (.sc (.bool (x4)))), (16, .v (.sc (.int .i64 (x5)))), (17, .v (.sc (.int .i64 (x6)))), (22, .l 22 0), (83, .v (.sc (.d 22 (.list 5 (.int .u8)) (x7)))), (84, .v (.sc (.int .i64 (x8)))), (85, .v (.sc (.int .i64 (x9))))], lo := [(22, [.int .i64 (x10), .d 5 (.int .u8) (x11), .d 44 (.pair (.int .i64) (.list 5 (.int .u8))) (x12)])], h := [], n0 := 0 } => some [(ok (L9_0_0 FU x0 x1 x2 x3 x4 x5 x6 x7 x8 x9 x10 x11 x12), (.exit 0), { sl := [(2, .v (.sc (.d 5 (.int .u8) (x0)))), (4, .v (.sc (.d 4 .bool (x1)))), (5, .v (.sc (.int .i64 (x2)))), (6, .v (.sc (.int .i64 (x3)))), (15, .v (.sc (.bool (x4)))), (17, .v (.sc (.int .i64 (x6)))), (22, .l 22 0)], lo := [(22, [.int .i64 ((val (L9_0_0 FU x0 x1 x2 x3 x4 x5 x6 x7 x8 x9 x10 x11 x12)).1), .d 5 (.int .u8) ((val (L9_0_0 FU x0 x1 x2 x3 x4 x5 x6 x7 x8 x9 x10 x11 x12)).2.1), .d 44 (.pair (.int .i64) (.list 5 (.int .u8))) ((val (L9_0_0 FU x0 x1 x2 x3 x4 x5 x6 x7 x8 x9 x10 x11 x12)).2.2)])], h := [], n0 := 0 })]
  | _ => none
theorem wL9_0_0 : NewTell Try.prog dOk base o35 t35 ((9, 0), sL9_0_0) := by
  refine ⟨.loop (codeAt Try.prog (tn0 9) 9 0), 0, by kernel_rfl, ?_⟩
  intro S alts e S' h1 h2
  have h1 : sL9_0_0 S = some alts := h1
  unfold sL9_0_0 at h1
  split at h1
  · cases h1
    obtain ⟨hc0, rfl, rfl⟩ := pick_one h2
    exact ⟨FU + 40, (evPiece_loop rfl).trans (lL9_0_0 FU 40 FU _ _ _ _ _ _ _ _ _ _ _ _ _ _ (ok_val hc0))⟩
  · cases h1
def o36 : OrcT := o35
def t36 : TellT := ((9, 0), sL9_0_0) :: t35
abbrev tn36 : FuncId → TAn := mkTn base o36 t36
theorem ok36 : TnOk Try.prog tn36 (mkA base) dOk := by
  have h0 : TnOk Try.prog (mkTn base o35 t35) (mkA base) dOk := ok35
  have h1 := tn_tell h0 h0 (p := ((9, 0), sL9_0_0)) wL9_0_0
  exact h1
end Go.Proofs.Ytchgjjgdgbecmaa
set_option maxRecDepth 1000000
set_option linter.unusedVariables false
set_option maxHeartbeats 4000000
namespace Go.Proofs.Ytchgjjgdgbecmaa
open Go Go.AM Go.TM Go.Proofs
/-- queuelablaw35.DiskSafe: the piece 204 -/
def L9_204_0 (x0 : (List Int)) (x1 : Bool) (x2 : Int) (x3 : Int) (x4 : (List Int)) (x5 : (List (Int × (List Int)))) : Option Bool := (cond (ok (v18 x3 x4 x5 x2)) (cond (x1) (cond (Prod.snd (val (v18 x3 x4 x5 x2)) == (0 : Int)) (cond (ok (v23 (Prod.fst (val (v18 x3 x4 x5 x2))) x0)) (some (val (v23 (Prod.fst (val (v18 x3 x4 x5 x2))) x0))) none) (some (false))) (some (false))) none)
def xL9_204_0 (x0 : (List Int)) (x1 : Bool) (x2 : Int) (x3 : Int) (x4 : (List Int)) (x5 : (List (Int × (List Int)))) : Bool → Ex × CS := fun r => (.ret, { sl := [(14, .v (.sc (.bool (r))))], lo := [], h := [], n0 := 0 })
theorem bL9_204_0 (k : Nat) (cX : Ex → CS → Option (Ex × CS)) (x0 : (List Int)) (x1 : Bool) (x2 : Int) (x3 : Int) (x4 : (List Int)) (x5 : (List (Int × (List Int)))) : pieceBody Try.prog (mkTn base o36 t36 9) (TM.evF Try.prog (mkTn base o36 t36) dOk (k + 40)) dOk (k + 40) (codeAt Try.prog (tn0 9) 9 204) 0 204 { sl := [(2, .v (.sc (.d 5 (.int .u8) (x0)))), (15, .v (.sc (.bool (x1)))), (17, .v (.sc (.int .i64 (x2)))), (29, .l 29 0)], lo := [(29, [.int .i64 (x3), .d 5 (.int .u8) (x4), .d 44 (.pair (.int .i64) (.list 5 (.int .u8))) (x5)])], h := [], n0 := 0 } cX = (cond (ok (v18 x3 x4 x5 x2)) (cond (x1) (cond (Prod.snd (val (v18 x3 x4 x5 x2)) == (0 : Int)) (cond (ok (v23 (Prod.fst (val (v18 x3 x4 x5 x2))) x0)) (cX .ret { sl := [(14, .v (.sc (.bool (val (v23 (Prod.fst (val (v18 x3 x4 x5 x2))) x0)))))], lo := [], h := [], n0 := 0 }) none) (cX .ret { sl := [(14, .v (.sc (.bool (false))))], lo := [], h := [], n0 := 0 })) (cX .ret { sl := [(14, .v (.sc (.bool (false))))], lo := [], h := [], n0 := 0 })) none) := by kernel_rfl
theorem lL9_204_0 (k : Nat) (x0 : (List Int)) (x1 : Bool) (x2 : Int) (x3 : Int) (x4 : (List Int)) (x5 : (List (Int × (List Int)))) (r : Bool) : L9_204_0 x0 x1 x2 x3 x4 x5 = some r → pieceBody Try.prog (mkTn base o36 t36 9) (TM.evF Try.prog (mkTn base o36 t36) dOk (k + 40)) dOk (k + 40) (codeAt Try.prog (tn0 9) 9 204) 0 204 { sl := [(2, .v (.sc (.d 5 (.int .u8) (x0)))), (15, .v (.sc (.bool (x1)))), (17, .v (.sc (.int .i64 (x2)))), (29, .l 29 0)], lo := [(29, [.int .i64 (x3), .d 5 (.int .u8) (x4), .d 44 (.pair (.int .i64) (.list 5 (.int .u8))) (x5)])], h := [], n0 := 0 } (fun e s => some (e, s)) = some (xL9_204_0 x0 x1 x2 x3 x4 x5 r) := by
  rw [bL9_204_0]
  unfold L9_204_0
  cases (ok (v18 x3 x4 x5 x2)) with
  | true =>
    cases x1 with
    | true =>
      cases (Prod.snd (val (v18 x3 x4 x5 x2)) == (0 : Int)) with
      | true =>
        cases (ok (v23 (Prod.fst (val (v18 x3 x4 x5 x2))) x0)) with
        | true =>
          intro h; cases h; rfl
        | false =>
          intro h; cases h
      | false =>
        intro h; cases h; rfl
    | false =>
      intro h; cases h; rfl
  | false =>
    intro h; cases h
def sL9_204_0 : TellS := fun S => match S with
  | { sl := [(2, .v (.sc (.d 5 (.int .u8) (x0)))), (15, .v (.sc (.bool (x1)))), (17, .v (.sc (.int .i64 (x2)))), (29, .l 29 0)], lo := [(29, [.int .i64 (x3), .d 5 (.int .u8) (x4), .d 44 (.pair (.int .i64) (.list 5 (.int .u8))) (x5)])], h := [], n0 := 0 } => some [(ok (L9_204_0 x0 x1 x2 x3 x4 x5), .ret, { sl := [(14, .v (.sc (.bool ((val (L9_204_0 x0 x1 x2 x3 x4 x5))))))], lo := [], h := [], n0 := 0 })]
  | _ => none
theorem wL9_204_0 : NewTell Try.prog dOk base o36 t36 ((9, 204), sL9_204_0) := by
  refine ⟨(codeAt Try.prog (tn0 9) 9 204), 0, by kernel_rfl, ?_⟩
  intro S alts e S' h1 h2
  have h1 : sL9_204_0 S = some alts := h1
  unfold sL9_204_0 at h1
  split at h1
  · cases h1
    obtain ⟨hc0, rfl, rfl⟩ := pick_one h2
    exact ⟨0 + 40, (evPiece_code rfl).trans (lL9_204_0 0 _ _ _ _ _ _ _ (ok_val hc0))⟩
  · cases h1
def o37 : OrcT := o36
def t37 : TellT := ((9, 204), sL9_204_0) :: t36
abbrev tn37 : FuncId → TAn := mkTn base o37 t37
theorem ok37 : TnOk Try.prog tn37 (mkA base) dOk := by
  have h0 : TnOk Try.prog (mkTn base o36 t36) (mkA base) dOk := ok36
  have h1 := tn_tell h0 h0 (p := ((9, 204), sL9_204_0)) wL9_204_0
  exact h1
end Go.Proofs.Ytchgjjgdgbecmaa
set_option maxRecDepth 1000000
set_option linter.unusedVariables false
set_option maxHeartbeats 4000000
namespace Go.Proofs.Ytchgjjgdgbecmaa
open Go Go.AM Go.TM Go.Proofs
/-- queuelablaw35.DiskSafe: the piece 108 -/
def L9_108_0 (x0 : (List Int)) (x1 : (List (List Int))) (x2 : (List Bool)) (x3 : Int) (x4 : Int) (x5 : Bool) (x6 : Int) (x7 : Int) (x8 : Int) (x9 : (List Int)) (x10 : (List (Int × (List Int)))) : Option Bool := (cond (ok (L9_0_0 FU x0 x2 x3 x4 x5 x6 x7 x1 (↑(List.length x1) : Int) (0 : Int) x8 x9 x10)) (cond (ok (v16 (Prod.fst (val (L9_0_0 FU x0 x2 x3 x4 x5 x6 x7 x1 (↑(List.length x1) : Int) (0 : Int) x8 x9 x10))) (Prod.fst (Prod.snd (val (L9_0_0 FU x0 x2 x3 x4 x5 x6 x7 x1 (↑(List.length x1) : Int) (0 : Int) x8 x9 x10)))) (Prod.snd (Prod.snd (val (L9_0_0 FU x0 x2 x3 x4 x5 x6 x7 x1 (↑(List.length x1) : Int) (0 : Int) x8 x9 x10)))) x2 x3 x4)) (cond (Prod.snd (Prod.snd (Prod.snd (val (v16 (Prod.fst (val (L9_0_0 FU x0 x2 x3 x4 x5 x6 x7 x1 (↑(List.length x1) : Int) (0 : Int) x8 x9 x10))) (Prod.fst (Prod.snd (val (L9_0_0 FU x0 x2 x3 x4 x5 x6 x7 x1 (↑(List.length x1) : Int) (0 : Int) x8 x9 x10)))) (Prod.snd (Prod.snd (val (L9_0_0 FU x0 x2 x3 x4 x5 x6 x7 x1 (↑(List.length x1) : Int) (0 : Int) x8 x9 x10)))) x2 x3 x4)))) != (0 : Int)) (some (x5)) (cond (ok (L9_204_0 x0 x5 x7 (Prod.fst (val (v16 (Prod.fst (val (L9_0_0 FU x0 x2 x3 x4 x5 x6 x7 x1 (↑(List.length x1) : Int) (0 : Int) x8 x9 x10))) (Prod.fst (Prod.snd (val (L9_0_0 FU x0 x2 x3 x4 x5 x6 x7 x1 (↑(List.length x1) : Int) (0 : Int) x8 x9 x10)))) (Prod.snd (Prod.snd (val (L9_0_0 FU x0 x2 x3 x4 x5 x6 x7 x1 (↑(List.length x1) : Int) (0 : Int) x8 x9 x10)))) x2 x3 x4))) (Prod.fst (Prod.snd (val (v16 (Prod.fst (val (L9_0_0 FU x0 x2 x3 x4 x5 x6 x7 x1 (↑(List.length x1) : Int) (0 : Int) x8 x9 x10))) (Prod.fst (Prod.snd (val (L9_0_0 FU x0 x2 x3 x4 x5 x6 x7 x1 (↑(List.length x1) : Int) (0 : Int) x8 x9 x10)))) (Prod.snd (Prod.snd (val (L9_0_0 FU x0 x2 x3 x4 x5 x6 x7 x1 (↑(List.length x1) : Int) (0 : Int) x8 x9 x10)))) x2 x3 x4)))) (Prod.fst (Prod.snd (Prod.snd (val (v16 (Prod.fst (val (L9_0_0 FU x0 x2 x3 x4 x5 x6 x7 x1 (↑(List.length x1) : Int) (0 : Int) x8 x9 x10))) (Prod.fst (Prod.snd (val (L9_0_0 FU x0 x2 x3 x4 x5 x6 x7 x1 (↑(List.length x1) : Int) (0 : Int) x8 x9 x10)))) (Prod.snd (Prod.snd (val (L9_0_0 FU x0 x2 x3 x4 x5 x6 x7 x1 (↑(List.length x1) : Int) (0 : Int) x8 x9 x10)))) x2 x3 x4))))))) (some (val (L9_204_0 x0 x5 x7 (Prod.fst (val (v16 (Prod.fst (val (L9_0_0 FU x0 x2 x3 x4 x5 x6 x7 x1 (↑(List.length x1) : Int) (0 : Int) x8 x9 x10))) (Prod.fst (Prod.snd (val (L9_0_0 FU x0 x2 x3 x4 x5 x6 x7 x1 (↑(List.length x1) : Int) (0 : Int) x8 x9 x10)))) (Prod.snd (Prod.snd (val (L9_0_0 FU x0 x2 x3 x4 x5 x6 x7 x1 (↑(List.length x1) : Int) (0 : Int) x8 x9 x10)))) x2 x3 x4))) (Prod.fst (Prod.snd (val (v16 (Prod.fst (val (L9_0_0 FU x0 x2 x3 x4 x5 x6 x7 x1 (↑(List.length x1) : Int) (0 : Int) x8 x9 x10))) (Prod.fst (Prod.snd (val (L9_0_0 FU x0 x2 x3 x4 x5 x6 x7 x1 (↑(List.length x1) : Int) (0 : Int) x8 x9 x10)))) (Prod.snd (Prod.snd (val (L9_0_0 FU x0 x2 x3 x4 x5 x6 x7 x1 (↑(List.length x1) : Int) (0 : Int) x8 x9 x10)))) x2 x3 x4)))) (Prod.fst (Prod.snd (Prod.snd (val (v16 (Prod.fst (val (L9_0_0 FU x0 x2 x3 x4 x5 x6 x7 x1 (↑(List.length x1) : Int) (0 : Int) x8 x9 x10))) (Prod.fst (Prod.snd (val (L9_0_0 FU x0 x2 x3 x4 x5 x6 x7 x1 (↑(List.length x1) : Int) (0 : Int) x8 x9 x10)))) (Prod.snd (Prod.snd (val (L9_0_0 FU x0 x2 x3 x4 x5 x6 x7 x1 (↑(List.length x1) : Int) (0 : Int) x8 x9 x10)))) x2 x3 x4)))))))) none)) none) none)
def xL9_108_0 (x0 : (List Int)) (x1 : (List (List Int))) (x2 : (List Bool)) (x3 : Int) (x4 : Int) (x5 : Bool) (x6 : Int) (x7 : Int) (x8 : Int) (x9 : (List Int)) (x10 : (List (Int × (List Int)))) : Bool → Ex × CS := fun r => (.ret, { sl := [(14, .v (.sc (.bool (r))))], lo := [], h := [], n0 := 0 })
theorem bL9_108_0 (k : Nat) (cX : Ex → CS → Option (Ex × CS)) (x0 : (List Int)) (x1 : (List (List Int))) (x2 : (List Bool)) (x3 : Int) (x4 : Int) (x5 : Bool) (x6 : Int) (x7 : Int) (x8 : Int) (x9 : (List Int)) (x10 : (List (Int × (List Int)))) : pieceBody Try.prog (mkTn base o37 t37 9) (TM.evF Try.prog (mkTn base o37 t37) dOk (k + 40)) dOk (k + 40) (codeAt Try.prog (tn0 9) 9 108) 0 108 { sl := [(2, .v (.sc (.d 5 (.int .u8) (x0)))), (3, .v (.sc (.d 22 (.list 5 (.int .u8)) (x1)))), (4, .v (.sc (.d 4 .bool (x2)))), (5, .v (.sc (.int .i64 (x3)))), (6, .v (.sc (.int .i64 (x4)))), (15, .v (.sc (.bool (x5)))), (16, .v (.sc (.int .i64 (x6)))), (17, .v (.sc (.int .i64 (x7)))), (22, .l 22 0)], lo := [(22, [.int .i64 (x8), .d 5 (.int .u8) (x9), .d 44 (.pair (.int .i64) (.list 5 (.int .u8))) (x10)])], h := [], n0 := 0 } cX = (cond (ok (L9_0_0 FU x0 x2 x3 x4 x5 x6 x7 x1 (↑(List.length x1) : Int) (0 : Int) x8 x9 x10)) (cond (ok (v16 (Prod.fst (val (L9_0_0 FU x0 x2 x3 x4 x5 x6 x7 x1 (↑(List.length x1) : Int) (0 : Int) x8 x9 x10))) (Prod.fst (Prod.snd (val (L9_0_0 FU x0 x2 x3 x4 x5 x6 x7 x1 (↑(List.length x1) : Int) (0 : Int) x8 x9 x10)))) (Prod.snd (Prod.snd (val (L9_0_0 FU x0 x2 x3 x4 x5 x6 x7 x1 (↑(List.length x1) : Int) (0 : Int) x8 x9 x10)))) x2 x3 x4)) (cond (Prod.snd (Prod.snd (Prod.snd (val (v16 (Prod.fst (val (L9_0_0 FU x0 x2 x3 x4 x5 x6 x7 x1 (↑(List.length x1) : Int) (0 : Int) x8 x9 x10))) (Prod.fst (Prod.snd (val (L9_0_0 FU x0 x2 x3 x4 x5 x6 x7 x1 (↑(List.length x1) : Int) (0 : Int) x8 x9 x10)))) (Prod.snd (Prod.snd (val (L9_0_0 FU x0 x2 x3 x4 x5 x6 x7 x1 (↑(List.length x1) : Int) (0 : Int) x8 x9 x10)))) x2 x3 x4)))) != (0 : Int)) (cX .ret { sl := [(14, .v (.sc (.bool (x5))))], lo := [], h := [], n0 := 0 }) (cond (ok (L9_204_0 x0 x5 x7 (Prod.fst (val (v16 (Prod.fst (val (L9_0_0 FU x0 x2 x3 x4 x5 x6 x7 x1 (↑(List.length x1) : Int) (0 : Int) x8 x9 x10))) (Prod.fst (Prod.snd (val (L9_0_0 FU x0 x2 x3 x4 x5 x6 x7 x1 (↑(List.length x1) : Int) (0 : Int) x8 x9 x10)))) (Prod.snd (Prod.snd (val (L9_0_0 FU x0 x2 x3 x4 x5 x6 x7 x1 (↑(List.length x1) : Int) (0 : Int) x8 x9 x10)))) x2 x3 x4))) (Prod.fst (Prod.snd (val (v16 (Prod.fst (val (L9_0_0 FU x0 x2 x3 x4 x5 x6 x7 x1 (↑(List.length x1) : Int) (0 : Int) x8 x9 x10))) (Prod.fst (Prod.snd (val (L9_0_0 FU x0 x2 x3 x4 x5 x6 x7 x1 (↑(List.length x1) : Int) (0 : Int) x8 x9 x10)))) (Prod.snd (Prod.snd (val (L9_0_0 FU x0 x2 x3 x4 x5 x6 x7 x1 (↑(List.length x1) : Int) (0 : Int) x8 x9 x10)))) x2 x3 x4)))) (Prod.fst (Prod.snd (Prod.snd (val (v16 (Prod.fst (val (L9_0_0 FU x0 x2 x3 x4 x5 x6 x7 x1 (↑(List.length x1) : Int) (0 : Int) x8 x9 x10))) (Prod.fst (Prod.snd (val (L9_0_0 FU x0 x2 x3 x4 x5 x6 x7 x1 (↑(List.length x1) : Int) (0 : Int) x8 x9 x10)))) (Prod.snd (Prod.snd (val (L9_0_0 FU x0 x2 x3 x4 x5 x6 x7 x1 (↑(List.length x1) : Int) (0 : Int) x8 x9 x10)))) x2 x3 x4))))))) (cX .ret { sl := [(14, .v (.sc (.bool (val (L9_204_0 x0 x5 x7 (Prod.fst (val (v16 (Prod.fst (val (L9_0_0 FU x0 x2 x3 x4 x5 x6 x7 x1 (↑(List.length x1) : Int) (0 : Int) x8 x9 x10))) (Prod.fst (Prod.snd (val (L9_0_0 FU x0 x2 x3 x4 x5 x6 x7 x1 (↑(List.length x1) : Int) (0 : Int) x8 x9 x10)))) (Prod.snd (Prod.snd (val (L9_0_0 FU x0 x2 x3 x4 x5 x6 x7 x1 (↑(List.length x1) : Int) (0 : Int) x8 x9 x10)))) x2 x3 x4))) (Prod.fst (Prod.snd (val (v16 (Prod.fst (val (L9_0_0 FU x0 x2 x3 x4 x5 x6 x7 x1 (↑(List.length x1) : Int) (0 : Int) x8 x9 x10))) (Prod.fst (Prod.snd (val (L9_0_0 FU x0 x2 x3 x4 x5 x6 x7 x1 (↑(List.length x1) : Int) (0 : Int) x8 x9 x10)))) (Prod.snd (Prod.snd (val (L9_0_0 FU x0 x2 x3 x4 x5 x6 x7 x1 (↑(List.length x1) : Int) (0 : Int) x8 x9 x10)))) x2 x3 x4)))) (Prod.fst (Prod.snd (Prod.snd (val (v16 (Prod.fst (val (L9_0_0 FU x0 x2 x3 x4 x5 x6 x7 x1 (↑(List.length x1) : Int) (0 : Int) x8 x9 x10))) (Prod.fst (Prod.snd (val (L9_0_0 FU x0 x2 x3 x4 x5 x6 x7 x1 (↑(List.length x1) : Int) (0 : Int) x8 x9 x10)))) (Prod.snd (Prod.snd (val (L9_0_0 FU x0 x2 x3 x4 x5 x6 x7 x1 (↑(List.length x1) : Int) (0 : Int) x8 x9 x10)))) x2 x3 x4))))))))))], lo := [], h := [], n0 := 0 }) none)) none) none) := by kernel_rfl
theorem lL9_108_0 (k : Nat) (x0 : (List Int)) (x1 : (List (List Int))) (x2 : (List Bool)) (x3 : Int) (x4 : Int) (x5 : Bool) (x6 : Int) (x7 : Int) (x8 : Int) (x9 : (List Int)) (x10 : (List (Int × (List Int)))) (r : Bool) : L9_108_0 x0 x1 x2 x3 x4 x5 x6 x7 x8 x9 x10 = some r → pieceBody Try.prog (mkTn base o37 t37 9) (TM.evF Try.prog (mkTn base o37 t37) dOk (k + 40)) dOk (k + 40) (codeAt Try.prog (tn0 9) 9 108) 0 108 { sl := [(2, .v (.sc (.d 5 (.int .u8) (x0)))), (3, .v (.sc (.d 22 (.list 5 (.int .u8)) (x1)))), (4, .v (.sc (.d 4 .bool (x2)))), (5, .v (.sc (.int .i64 (x3)))), (6, .v (.sc (.int .i64 (x4)))), (15, .v (.sc (.bool (x5)))), (16, .v (.sc (.int .i64 (x6)))), (17, .v (.sc (.int .i64 (x7)))), (22, .l 22 0)], lo := [(22, [.int .i64 (x8), .d 5 (.int .u8) (x9), .d 44 (.pair (.int .i64) (.list 5 (.int .u8))) (x10)])], h := [], n0 := 0 } (fun e s => some (e, s)) = some (xL9_108_0 x0 x1 x2 x3 x4 x5 x6 x7 x8 x9 x10 r) := by
  rw [bL9_108_0]
  unfold L9_108_0
  cases (ok (L9_0_0 FU x0 x2 x3 x4 x5 x6 x7 x1 (↑(List.length x1) : Int) (0 : Int) x8 x9 x10)) with
  | true =>
    cases (ok (v16 (Prod.fst (val (L9_0_0 FU x0 x2 x3 x4 x5 x6 x7 x1 (↑(List.length x1) : Int) (0 : Int) x8 x9 x10))) (Prod.fst (Prod.snd (val (L9_0_0 FU x0 x2 x3 x4 x5 x6 x7 x1 (↑(List.length x1) : Int) (0 : Int) x8 x9 x10)))) (Prod.snd (Prod.snd (val (L9_0_0 FU x0 x2 x3 x4 x5 x6 x7 x1 (↑(List.length x1) : Int) (0 : Int) x8 x9 x10)))) x2 x3 x4)) with
    | true =>
      cases (Prod.snd (Prod.snd (Prod.snd (val (v16 (Prod.fst (val (L9_0_0 FU x0 x2 x3 x4 x5 x6 x7 x1 (↑(List.length x1) : Int) (0 : Int) x8 x9 x10))) (Prod.fst (Prod.snd (val (L9_0_0 FU x0 x2 x3 x4 x5 x6 x7 x1 (↑(List.length x1) : Int) (0 : Int) x8 x9 x10)))) (Prod.snd (Prod.snd (val (L9_0_0 FU x0 x2 x3 x4 x5 x6 x7 x1 (↑(List.length x1) : Int) (0 : Int) x8 x9 x10)))) x2 x3 x4)))) != (0 : Int)) with
      | true =>
        intro h; cases h; rfl
      | false =>
        cases (ok (L9_204_0 x0 x5 x7 (Prod.fst (val (v16 (Prod.fst (val (L9_0_0 FU x0 x2 x3 x4 x5 x6 x7 x1 (↑(List.length x1) : Int) (0 : Int) x8 x9 x10))) (Prod.fst (Prod.snd (val (L9_0_0 FU x0 x2 x3 x4 x5 x6 x7 x1 (↑(List.length x1) : Int) (0 : Int) x8 x9 x10)))) (Prod.snd (Prod.snd (val (L9_0_0 FU x0 x2 x3 x4 x5 x6 x7 x1 (↑(List.length x1) : Int) (0 : Int) x8 x9 x10)))) x2 x3 x4))) (Prod.fst (Prod.snd (val (v16 (Prod.fst (val (L9_0_0 FU x0 x2 x3 x4 x5 x6 x7 x1 (↑(List.length x1) : Int) (0 : Int) x8 x9 x10))) (Prod.fst (Prod.snd (val (L9_0_0 FU x0 x2 x3 x4 x5 x6 x7 x1 (↑(List.length x1) : Int) (0 : Int) x8 x9 x10)))) (Prod.snd (Prod.snd (val (L9_0_0 FU x0 x2 x3 x4 x5 x6 x7 x1 (↑(List.length x1) : Int) (0 : Int) x8 x9 x10)))) x2 x3 x4)))) (Prod.fst (Prod.snd (Prod.snd (val (v16 (Prod.fst (val (L9_0_0 FU x0 x2 x3 x4 x5 x6 x7 x1 (↑(List.length x1) : Int) (0 : Int) x8 x9 x10))) (Prod.fst (Prod.snd (val (L9_0_0 FU x0 x2 x3 x4 x5 x6 x7 x1 (↑(List.length x1) : Int) (0 : Int) x8 x9 x10)))) (Prod.snd (Prod.snd (val (L9_0_0 FU x0 x2 x3 x4 x5 x6 x7 x1 (↑(List.length x1) : Int) (0 : Int) x8 x9 x10)))) x2 x3 x4))))))) with
        | true =>
          intro h; cases h; rfl
        | false =>
          intro h; cases h
    | false =>
      intro h; cases h
  | false =>
    intro h; cases h
def sL9_108_0 : TellS := fun S => match S with
  | { sl := [(2, .v (.sc (.d 5 (.int .u8) (x0)))), (3, .v (.sc (.d 22 (.list 5 (.int .u8)) (x1)))), (4, .v (.sc (.d 4 .bool (x2)))), (5, .v (.sc (.int .i64 (x3)))), (6, .v (.sc (.int .i64 (x4)))), (15, .v (.sc (.bool (x5)))), (16, .v (.sc (.int .i64 (x6)))), (17, .v (.sc (.int .i64 (x7)))), (22, .l 22 0)], lo := [(22, [.int .i64 (x8), .d 5 (.int .u8) (x9), .d 44 (.pair (.int .i64) (.list 5 (.int .u8))) (x10)])], h := [], n0 := 0 } => some [(ok (L9_108_0 x0 x1 x2 x3 x4 x5 x6 x7 x8 x9 x10), .ret, { sl := [(14, .v (.sc (.bool ((val (L9_108_0 x0 x1 x2 x3 x4 x5 x6 x7 x8 x9 x10))))))], lo := [], h := [], n0 := 0 })]
  | _ => none
theorem wL9_108_0 : NewTell Try.prog dOk base o37 t37 ((9, 108), sL9_108_0) := by
  refine ⟨(codeAt Try.prog (tn0 9) 9 108), 0, by kernel_rfl, ?_⟩
  intro S alts e S' h1 h2
  have h1 : sL9_108_0 S = some alts := h1
  unfold sL9_108_0 at h1
  split at h1
  · cases h1
    obtain ⟨hc0, rfl, rfl⟩ := pick_one h2
    exact ⟨0 + 40, (evPiece_code rfl).trans (lL9_108_0 0 _ _ _ _ _ _ _ _ _ _ _ _ (ok_val hc0))⟩
  · cases h1
def o38 : OrcT := o37
def t38 : TellT := ((9, 108), sL9_108_0) :: t37
abbrev tn38 : FuncId → TAn := mkTn base o38 t38
theorem ok38 : TnOk Try.prog tn38 (mkA base) dOk := by
  have h0 : TnOk Try.prog (mkTn base o37 t37) (mkA base) dOk := ok37
  have h1 := tn_tell h0 h0 (p := ((9, 108), sL9_108_0)) wL9_108_0
  exact h1
end Go.Proofs.Ytchgjjgdgbecmaa
set_option maxRecDepth 1000000
set_option linter.unusedVariables false
set_option maxHeartbeats 4000000
namespace Go.Proofs.Ytchgjjgdgbecmaa
open Go Go.AM Go.TM Go.Proofs
/-- queuelablaw35.DiskSafe: the piece 36 -/
def L9_36_0 (x0 : Int) (x1 : (List Int)) (x2 : (List (List Int))) (x3 : (List Bool)) (x4 : Int) (x5 : Int) (x6 : Bool) (x7 : Int) (x8 : (List Int)) (x9 : (List (Int × (List Int)))) : Option Bool := (cond (decide (x7 ≠ (0 : Int))) (cond (decide (IntKind.wrap IntKind.i64 (Int.tdiv (↑(List.length x8) : Int) x7) ≠ (0 : Int))) (cond (ok (v14 x7 x8 x9)) (cond (ok (v12 (Prod.fst (val (v14 x7 x8 x9))) (Prod.fst (Prod.snd (val (v14 x7 x8 x9)))) (Prod.fst (Prod.snd (Prod.snd (val (v14 x7 x8 x9))))) (Int.tmod (IntKind.wrap IntKind.i64 x0) (IntKind.wrap IntKind.i64 (Int.tdiv (↑(List.length x8) : Int) x7))) x1)) (cond (ok (v14 (Prod.fst (val (v12 (Prod.fst (val (v14 x7 x8 x9))) (Prod.fst (Prod.snd (val (v14 x7 x8 x9)))) (Prod.fst (Prod.snd (Prod.snd (val (v14 x7 x8 x9))))) (Int.tmod (IntKind.wrap IntKind.i64 x0) (IntKind.wrap IntKind.i64 (Int.tdiv (↑(List.length x8) : Int) x7))) x1))) (Prod.fst (Prod.snd (val (v12 (Prod.fst (val (v14 x7 x8 x9))) (Prod.fst (Prod.snd (val (v14 x7 x8 x9)))) (Prod.fst (Prod.snd (Prod.snd (val (v14 x7 x8 x9))))) (Int.tmod (IntKind.wrap IntKind.i64 x0) (IntKind.wrap IntKind.i64 (Int.tdiv (↑(List.length x8) : Int) x7))) x1)))) (Prod.fst (Prod.snd (Prod.snd (val (v12 (Prod.fst (val (v14 x7 x8 x9))) (Prod.fst (Prod.snd (val (v14 x7 x8 x9)))) (Prod.fst (Prod.snd (Prod.snd (val (v14 x7 x8 x9))))) (Int.tmod (IntKind.wrap IntKind.i64 x0) (IntKind.wrap IntKind.i64 (Int.tdiv (↑(List.length x8) : Int) x7))) x1))))))) (cond (Prod.snd (Prod.snd (Prod.snd (val (v14 x7 x8 x9)))) != (0 : Int)) (cond (x6) (some (Prod.snd (Prod.snd (Prod.snd (val (v14 x7 x8 x9)))) == (0 : Int))) (some (false))) (cond (Prod.snd (Prod.snd (Prod.snd (val (v12 (Prod.fst (val (v14 x7 x8 x9))) (Prod.fst (Prod.snd (val (v14 x7 x8 x9)))) (Prod.fst (Prod.snd (Prod.snd (val (v14 x7 x8 x9))))) (Int.tmod (IntKind.wrap IntKind.i64 x0) (IntKind.wrap IntKind.i64 (Int.tdiv (↑(List.length x8) : Int) x7))) x1)))) != (0 : Int)) (cond (x6) (some (Prod.snd (Prod.snd (Prod.snd (val (v14 x7 x8 x9)))) == (0 : Int))) (some (false))) (cond (Prod.snd (Prod.snd (Prod.snd (val (v14 (Prod.fst (val (v12 (Prod.fst (val (v14 x7 x8 x9))) (Prod.fst (Prod.snd (val (v14 x7 x8 x9)))) (Prod.fst (Prod.snd (Prod.snd (val (v14 x7 x8 x9))))) (Int.tmod (IntKind.wrap IntKind.i64 x0) (IntKind.wrap IntKind.i64 (Int.tdiv (↑(List.length x8) : Int) x7))) x1))) (Prod.fst (Prod.snd (val (v12 (Prod.fst (val (v14 x7 x8 x9))) (Prod.fst (Prod.snd (val (v14 x7 x8 x9)))) (Prod.fst (Prod.snd (Prod.snd (val (v14 x7 x8 x9))))) (Int.tmod (IntKind.wrap IntKind.i64 x0) (IntKind.wrap IntKind.i64 (Int.tdiv (↑(List.length x8) : Int) x7))) x1)))) (Prod.fst (Prod.snd (Prod.snd (val (v12 (Prod.fst (val (v14 x7 x8 x9))) (Prod.fst (Prod.snd (val (v14 x7 x8 x9)))) (Prod.fst (Prod.snd (Prod.snd (val (v14 x7 x8 x9))))) (Int.tmod (IntKind.wrap IntKind.i64 x0) (IntKind.wrap IntKind.i64 (Int.tdiv (↑(List.length x8) : Int) x7))) x1))))))))) != (0 : Int)) (some (false)) (cond (ok (L9_108_0 x1 x2 x3 x4 x5 x6 (IntKind.wrap IntKind.i64 (Int.tdiv (↑(List.length x8) : Int) x7)) (Int.tmod (IntKind.wrap IntKind.i64 x0) (IntKind.wrap IntKind.i64 (Int.tdiv (↑(List.length x8) : Int) x7))) (Prod.fst (val (v14 (Prod.fst (val (v12 (Prod.fst (val (v14 x7 x8 x9))) (Prod.fst (Prod.snd (val (v14 x7 x8 x9)))) (Prod.fst (Prod.snd (Prod.snd (val (v14 x7 x8 x9))))) (Int.tmod (IntKind.wrap IntKind.i64 x0) (IntKind.wrap IntKind.i64 (Int.tdiv (↑(List.length x8) : Int) x7))) x1))) (Prod.fst (Prod.snd (val (v12 (Prod.fst (val (v14 x7 x8 x9))) (Prod.fst (Prod.snd (val (v14 x7 x8 x9)))) (Prod.fst (Prod.snd (Prod.snd (val (v14 x7 x8 x9))))) (Int.tmod (IntKind.wrap IntKind.i64 x0) (IntKind.wrap IntKind.i64 (Int.tdiv (↑(List.length x8) : Int) x7))) x1)))) (Prod.fst (Prod.snd (Prod.snd (val (v12 (Prod.fst (val (v14 x7 x8 x9))) (Prod.fst (Prod.snd (val (v14 x7 x8 x9)))) (Prod.fst (Prod.snd (Prod.snd (val (v14 x7 x8 x9))))) (Int.tmod (IntKind.wrap IntKind.i64 x0) (IntKind.wrap IntKind.i64 (Int.tdiv (↑(List.length x8) : Int) x7))) x1)))))))) (Prod.fst (Prod.snd (val (v14 (Prod.fst (val (v12 (Prod.fst (val (v14 x7 x8 x9))) (Prod.fst (Prod.snd (val (v14 x7 x8 x9)))) (Prod.fst (Prod.snd (Prod.snd (val (v14 x7 x8 x9))))) (Int.tmod (IntKind.wrap IntKind.i64 x0) (IntKind.wrap IntKind.i64 (Int.tdiv (↑(List.length x8) : Int) x7))) x1))) (Prod.fst (Prod.snd (val (v12 (Prod.fst (val (v14 x7 x8 x9))) (Prod.fst (Prod.snd (val (v14 x7 x8 x9)))) (Prod.fst (Prod.snd (Prod.snd (val (v14 x7 x8 x9))))) (Int.tmod (IntKind.wrap IntKind.i64 x0) (IntKind.wrap IntKind.i64 (Int.tdiv (↑(List.length x8) : Int) x7))) x1)))) (Prod.fst (Prod.snd (Prod.snd (val (v12 (Prod.fst (val (v14 x7 x8 x9))) (Prod.fst (Prod.snd (val (v14 x7 x8 x9)))) (Prod.fst (Prod.snd (Prod.snd (val (v14 x7 x8 x9))))) (Int.tmod (IntKind.wrap IntKind.i64 x0) (IntKind.wrap IntKind.i64 (Int.tdiv (↑(List.length x8) : Int) x7))) x1))))))))) (Prod.fst (Prod.snd (Prod.snd (val (v14 (Prod.fst (val (v12 (Prod.fst (val (v14 x7 x8 x9))) (Prod.fst (Prod.snd (val (v14 x7 x8 x9)))) (Prod.fst (Prod.snd (Prod.snd (val (v14 x7 x8 x9))))) (Int.tmod (IntKind.wrap IntKind.i64 x0) (IntKind.wrap IntKind.i64 (Int.tdiv (↑(List.length x8) : Int) x7))) x1))) (Prod.fst (Prod.snd (val (v12 (Prod.fst (val (v14 x7 x8 x9))) (Prod.fst (Prod.snd (val (v14 x7 x8 x9)))) (Prod.fst (Prod.snd (Prod.snd (val (v14 x7 x8 x9))))) (Int.tmod (IntKind.wrap IntKind.i64 x0) (IntKind.wrap IntKind.i64 (Int.tdiv (↑(List.length x8) : Int) x7))) x1)))) (Prod.fst (Prod.snd (Prod.snd (val (v12 (Prod.fst (val (v14 x7 x8 x9))) (Prod.fst (Prod.snd (val (v14 x7 x8 x9)))) (Prod.fst (Prod.snd (Prod.snd (val (v14 x7 x8 x9))))) (Int.tmod (IntKind.wrap IntKind.i64 x0) (IntKind.wrap IntKind.i64 (Int.tdiv (↑(List.length x8) : Int) x7))) x1)))))))))))) (some (val (L9_108_0 x1 x2 x3 x4 x5 x6 (IntKind.wrap IntKind.i64 (Int.tdiv (↑(List.length x8) : Int) x7)) (Int.tmod (IntKind.wrap IntKind.i64 x0) (IntKind.wrap IntKind.i64 (Int.tdiv (↑(List.length x8) : Int) x7))) (Prod.fst (val (v14 (Prod.fst (val (v12 (Prod.fst (val (v14 x7 x8 x9))) (Prod.fst (Prod.snd (val (v14 x7 x8 x9)))) (Prod.fst (Prod.snd (Prod.snd (val (v14 x7 x8 x9))))) (Int.tmod (IntKind.wrap IntKind.i64 x0) (IntKind.wrap IntKind.i64 (Int.tdiv (↑(List.length x8) : Int) x7))) x1))) (Prod.fst (Prod.snd (val (v12 (Prod.fst (val (v14 x7 x8 x9))) (Prod.fst (Prod.snd (val (v14 x7 x8 x9)))) (Prod.fst (Prod.snd (Prod.snd (val (v14 x7 x8 x9))))) (Int.tmod (IntKind.wrap IntKind.i64 x0) (IntKind.wrap IntKind.i64 (Int.tdiv (↑(List.length x8) : Int) x7))) x1)))) (Prod.fst (Prod.snd (Prod.snd (val (v12 (Prod.fst (val (v14 x7 x8 x9))) (Prod.fst (Prod.snd (val (v14 x7 x8 x9)))) (Prod.fst (Prod.snd (Prod.snd (val (v14 x7 x8 x9))))) (Int.tmod (IntKind.wrap IntKind.i64 x0) (IntKind.wrap IntKind.i64 (Int.tdiv (↑(List.length x8) : Int) x7))) x1)))))))) (Prod.fst (Prod.snd (val (v14 (Prod.fst (val (v12 (Prod.fst (val (v14 x7 x8 x9))) (Prod.fst (Prod.snd (val (v14 x7 x8 x9)))) (Prod.fst (Prod.snd (Prod.snd (val (v14 x7 x8 x9))))) (Int.tmod (IntKind.wrap IntKind.i64 x0) (IntKind.wrap IntKind.i64 (Int.tdiv (↑(List.length x8) : Int) x7))) x1))) (Prod.fst (Prod.snd (val (v12 (Prod.fst (val (v14 x7 x8 x9))) (Prod.fst (Prod.snd (val (v14 x7 x8 x9)))) (Prod.fst (Prod.snd (Prod.snd (val (v14 x7 x8 x9))))) (Int.tmod (IntKind.wrap IntKind.i64 x0) (IntKind.wrap IntKind.i64 (Int.tdiv (↑(List.length x8) : Int) x7))) x1)))) (Prod.fst (Prod.snd (Prod.snd (val (v12 (Prod.fst (val (v14 x7 x8 x9))) (Prod.fst (Prod.snd (val (v14 x7 x8 x9)))) (Prod.fst (Prod.snd (Prod.snd (val (v14 x7 x8 x9))))) (Int.tmod (IntKind.wrap IntKind.i64 x0) (IntKind.wrap IntKind.i64 (Int.tdiv (↑(List.length x8) : Int) x7))) x1))))))))) (Prod.fst (Prod.snd (Prod.snd (val (v14 (Prod.fst (val (v12 (Prod.fst (val (v14 x7 x8 x9))) (Prod.fst (Prod.snd (val (v14 x7 x8 x9)))) (Prod.fst (Prod.snd (Prod.snd (val (v14 x7 x8 x9))))) (Int.tmod (IntKind.wrap IntKind.i64 x0) (IntKind.wrap IntKind.i64 (Int.tdiv (↑(List.length x8) : Int) x7))) x1))) (Prod.fst (Prod.snd (val (v12 (Prod.fst (val (v14 x7 x8 x9))) (Prod.fst (Prod.snd (val (v14 x7 x8 x9)))) (Prod.fst (Prod.snd (Prod.snd (val (v14 x7 x8 x9))))) (Int.tmod (IntKind.wrap IntKind.i64 x0) (IntKind.wrap IntKind.i64 (Int.tdiv (↑(List.length x8) : Int) x7))) x1)))) (Prod.fst (Prod.snd (Prod.snd (val (v12 (Prod.fst (val (v14 x7 x8 x9))) (Prod.fst (Prod.snd (val (v14 x7 x8 x9)))) (Prod.fst (Prod.snd (Prod.snd (val (v14 x7 x8 x9))))) (Int.tmod (IntKind.wrap IntKind.i64 x0) (IntKind.wrap IntKind.i64 (Int.tdiv (↑(List.length x8) : Int) x7))) x1))))))))))))) none)))) none) none) none) none) none)
def xL9_36_0 (x0 : Int) (x1 : (List Int)) (x2 : (List (List Int))) (x3 : (List Bool)) (x4 : Int) (x5 : Int) (x6 : Bool) (x7 : Int) (x8 : (List Int)) (x9 : (List (Int × (List Int)))) : Bool → Ex × CS := fun r => (.ret, { sl := [(14, .v (.sc (.bool (r))))], lo := [], h := [], n0 := 0 })
theorem bL9_36_0 (k : Nat) (cX : Ex → CS → Option (Ex × CS)) (x0 : Int) (x1 : (List Int)) (x2 : (List (List Int))) (x3 : (List Bool)) (x4 : Int) (x5 : Int) (x6 : Bool) (x7 : Int) (x8 : (List Int)) (x9 : (List (Int × (List Int)))) : pieceBody Try.prog (mkTn base o38 t38 9) (TM.evF Try.prog (mkTn base o38 t38) dOk (k + 40)) dOk (k + 40) (codeAt Try.prog (tn0 9) 9 36) 0 36 { sl := [(1, .v (.sc (.int .u8 (x0)))), (2, .v (.sc (.d 5 (.int .u8) (x1)))), (3, .v (.sc (.d 22 (.list 5 (.int .u8)) (x2)))), (4, .v (.sc (.d 4 .bool (x3)))), (5, .v (.sc (.int .i64 (x4)))), (6, .v (.sc (.int .i64 (x5)))), (7, .l 7 0), (15, .v (.sc (.bool (x6))))], lo := [(7, [.int .i64 (x7), .d 5 (.int .u8) (x8), .d 44 (.pair (.int .i64) (.list 5 (.int .u8))) (x9)])], h := [], n0 := 0 } cX = (cond (decide (x7 ≠ (0 : Int))) (cond (decide (IntKind.wrap IntKind.i64 (Int.tdiv (↑(List.length x8) : Int) x7) ≠ (0 : Int))) (cond (ok (v14 x7 x8 x9)) (cond (ok (v12 (Prod.fst (val (v14 x7 x8 x9))) (Prod.fst (Prod.snd (val (v14 x7 x8 x9)))) (Prod.fst (Prod.snd (Prod.snd (val (v14 x7 x8 x9))))) (Int.tmod (IntKind.wrap IntKind.i64 x0) (IntKind.wrap IntKind.i64 (Int.tdiv (↑(List.length x8) : Int) x7))) x1)) (cond (ok (v14 (Prod.fst (val (v12 (Prod.fst (val (v14 x7 x8 x9))) (Prod.fst (Prod.snd (val (v14 x7 x8 x9)))) (Prod.fst (Prod.snd (Prod.snd (val (v14 x7 x8 x9))))) (Int.tmod (IntKind.wrap IntKind.i64 x0) (IntKind.wrap IntKind.i64 (Int.tdiv (↑(List.length x8) : Int) x7))) x1))) (Prod.fst (Prod.snd (val (v12 (Prod.fst (val (v14 x7 x8 x9))) (Prod.fst (Prod.snd (val (v14 x7 x8 x9)))) (Prod.fst (Prod.snd (Prod.snd (val (v14 x7 x8 x9))))) (Int.tmod (IntKind.wrap IntKind.i64 x0) (IntKind.wrap IntKind.i64 (Int.tdiv (↑(List.length x8) : Int) x7))) x1)))) (Prod.fst (Prod.snd (Prod.snd (val (v12 (Prod.fst (val (v14 x7 x8 x9))) (Prod.fst (Prod.snd (val (v14 x7 x8 x9)))) (Prod.fst (Prod.snd (Prod.snd (val (v14 x7 x8 x9))))) (Int.tmod (IntKind.wrap IntKind.i64 x0) (IntKind.wrap IntKind.i64 (Int.tdiv (↑(List.length x8) : Int) x7))) x1))))))) (cond (Prod.snd (Prod.snd (Prod.snd (val (v14 x7 x8 x9)))) != (0 : Int)) (cond (x6) (cX .ret { sl := [(14, .v (.sc (.bool (Prod.snd (Prod.snd (Prod.snd (val (v14 x7 x8 x9)))) == (0 : Int)))))], lo := [], h := [], n0 := 0 }) (cX .ret { sl := [(14, .v (.sc (.bool (false))))], lo := [], h := [], n0 := 0 })) (cond (Prod.snd (Prod.snd (Prod.snd (val (v12 (Prod.fst (val (v14 x7 x8 x9))) (Prod.fst (Prod.snd (val (v14 x7 x8 x9)))) (Prod.fst (Prod.snd (Prod.snd (val (v14 x7 x8 x9))))) (Int.tmod (IntKind.wrap IntKind.i64 x0) (IntKind.wrap IntKind.i64 (Int.tdiv (↑(List.length x8) : Int) x7))) x1)))) != (0 : Int)) (cond (x6) (cX .ret { sl := [(14, .v (.sc (.bool (Prod.snd (Prod.snd (Prod.snd (val (v14 x7 x8 x9)))) == (0 : Int)))))], lo := [], h := [], n0 := 0 }) (cX .ret { sl := [(14, .v (.sc (.bool (false))))], lo := [], h := [], n0 := 0 })) (cond (Prod.snd (Prod.snd (Prod.snd (val (v14 (Prod.fst (val (v12 (Prod.fst (val (v14 x7 x8 x9))) (Prod.fst (Prod.snd (val (v14 x7 x8 x9)))) (Prod.fst (Prod.snd (Prod.snd (val (v14 x7 x8 x9))))) (Int.tmod (IntKind.wrap IntKind.i64 x0) (IntKind.wrap IntKind.i64 (Int.tdiv (↑(List.length x8) : Int) x7))) x1))) (Prod.fst (Prod.snd (val (v12 (Prod.fst (val (v14 x7 x8 x9))) (Prod.fst (Prod.snd (val (v14 x7 x8 x9)))) (Prod.fst (Prod.snd (Prod.snd (val (v14 x7 x8 x9))))) (Int.tmod (IntKind.wrap IntKind.i64 x0) (IntKind.wrap IntKind.i64 (Int.tdiv (↑(List.length x8) : Int) x7))) x1)))) (Prod.fst (Prod.snd (Prod.snd (val (v12 (Prod.fst (val (v14 x7 x8 x9))) (Prod.fst (Prod.snd (val (v14 x7 x8 x9)))) (Prod.fst (Prod.snd (Prod.snd (val (v14 x7 x8 x9))))) (Int.tmod (IntKind.wrap IntKind.i64 x0) (IntKind.wrap IntKind.i64 (Int.tdiv (↑(List.length x8) : Int) x7))) x1))))))))) != (0 : Int)) (cX .ret { sl := [(14, .v (.sc (.bool (false))))], lo := [], h := [], n0 := 0 }) (cond (ok (L9_108_0 x1 x2 x3 x4 x5 x6 (IntKind.wrap IntKind.i64 (Int.tdiv (↑(List.length x8) : Int) x7)) (Int.tmod (IntKind.wrap IntKind.i64 x0) (IntKind.wrap IntKind.i64 (Int.tdiv (↑(List.length x8) : Int) x7))) (Prod.fst (val (v14 (Prod.fst (val (v12 (Prod.fst (val (v14 x7 x8 x9))) (Prod.fst (Prod.snd (val (v14 x7 x8 x9)))) (Prod.fst (Prod.snd (Prod.snd (val (v14 x7 x8 x9))))) (Int.tmod (IntKind.wrap IntKind.i64 x0) (IntKind.wrap IntKind.i64 (Int.tdiv (↑(List.length x8) : Int) x7))) x1))) (Prod.fst (Prod.snd (val (v12 (Prod.fst (val (v14 x7 x8 x9))) (Prod.fst (Prod.snd (val (v14 x7 x8 x9)))) (Prod.fst (Prod.snd (Prod.snd (val (v14 x7 x8 x9))))) (Int.tmod (IntKind.wrap IntKind.i64 x0) (IntKind.wrap IntKind.i64 (Int.tdiv (↑(List.length x8) : Int) x7))) x1)))) (Prod.fst (Prod.snd (Prod.snd (val (v12 (Prod.fst (val (v14 x7 x8 x9))) (Prod.fst (Prod.snd (val (v14 x7 x8 x9)))) (Prod.fst (Prod.snd (Prod.snd (val (v14 x7 x8 x9))))) (Int.tmod (IntKind.wrap IntKind.i64 x0) (IntKind.wrap IntKind.i64 (Int.tdiv (↑(List.length x8) : Int) x7))) x1)))))))) (Prod.fst (Prod.snd (val (v14 (Prod.fst (val (v12 (Prod.fst (val (v14 x7 x8 x9))) (Prod.fst (Prod.snd (val (v14 x7 x8 x9)))) (Prod.fst (Prod.snd (Prod.snd (val (v14 x7 x8 x9))))) (Int.tmod (IntKind.wrap IntKind.i64 x0) (IntKind.wrap IntKind.i64 (Int.tdiv (↑(List.length x8) : Int) x7))) x1))) (Prod.fst (Prod.snd (val (v12 (Prod.fst (val (v14 x7 x8 x9))) (Prod.fst (Prod.snd (val (v14 x7 x8 x9)))) (Prod.fst (Prod.snd (Prod.snd (val (v14 x7 x8 x9))))) (Int.tmod (IntKind.wrap IntKind.i64 x0) (IntKind.wrap IntKind.i64 (Int.tdiv (↑(List.length x8) : Int) x7))) x1)))) (Prod.fst (Prod.snd (Prod.snd (val (v12 (Prod.fst (val (v14 x7 x8 x9))) (Prod.fst (Prod.snd (val (v14 x7 x8 x9)))) (Prod.fst (Prod.snd (Prod.snd (val (v14 x7 x8 x9))))) (Int.tmod (IntKind.wrap IntKind.i64 x0) (IntKind.wrap IntKind.i64 (Int.tdiv (↑(List.length x8) : Int) x7))) x1))))))))) (Prod.fst (Prod.snd (Prod.snd (val (v14 (Prod.fst (val (v12 (Prod.fst (val (v14 x7 x8 x9))) (Prod.fst (Prod.snd (val (v14 x7 x8 x9)))) (Prod.fst (Prod.snd (Prod.snd (val (v14 x7 x8 x9))))) (Int.tmod (IntKind.wrap IntKind.i64 x0) (IntKind.wrap IntKind.i64 (Int.tdiv (↑(List.length x8) : Int) x7))) x1))) (Prod.fst (Prod.snd (val (v12 (Prod.fst (val (v14 x7 x8 x9))) (Prod.fst (Prod.snd (val (v14 x7 x8 x9)))) (Prod.fst (Prod.snd (Prod.snd (val (v14 x7 x8 x9))))) (Int.tmod (IntKind.wrap IntKind.i64 x0) (IntKind.wrap IntKind.i64 (Int.tdiv (↑(List.length x8) : Int) x7))) x1)))) (Prod.fst (Prod.snd (Prod.snd (val (v12 (Prod.fst (val (v14 x7 x8 x9))) (Prod.fst (Prod.snd (val (v14 x7 x8 x9)))) (Prod.fst (Prod.snd (Prod.snd (val (v14 x7 x8 x9))))) (Int.tmod (IntKind.wrap IntKind.i64 x0) (IntKind.wrap IntKind.i64 (Int.tdiv (↑(List.length x8) : Int) x7))) x1)))))))))))) (cX .ret { sl := [(14, .v (.sc (.bool (val (L9_108_0 x1 x2 x3 x4 x5 x6 (IntKind.wrap IntKind.i64 (Int.tdiv (↑(List.length x8) : Int) x7)) (Int.tmod (IntKind.wrap IntKind.i64 x0) (IntKind.wrap IntKind.i64 (Int.tdiv (↑(List.length x8) : Int) x7))) (Prod.fst (val (v14 (Prod.fst (val (v12 (Prod.fst (val (v14 x7 x8 x9))) (Prod.fst (Prod.snd (val (v14 x7 x8 x9)))) (Prod.fst (Prod.snd (Prod.snd (val (v14 x7 x8 x9))))) (Int.tmod (IntKind.wrap IntKind.i64 x0) (IntKind.wrap IntKind.i64 (Int.tdiv (↑(List.length x8) : Int) x7))) x1))) (Prod.fst (Prod.snd (val (v12 (Prod.fst (val (v14 x7 x8 x9))) (Prod.fst (Prod.snd (val (v14 x7 x8 x9)))) (Prod.fst (Prod.snd (Prod.snd (val (v14 x7 x8 x9))))) (Int.tmod (IntKind.wrap IntKind.i64 x0) (IntKind.wrap IntKind.i64 (Int.tdiv (↑(List.length x8) : Int) x7))) x1)))) (Prod.fst (Prod.snd (Prod.snd (val (v12 (Prod.fst (val (v14 x7 x8 x9))) (Prod.fst (Prod.snd (val (v14 x7 x8 x9)))) (Prod.fst (Prod.snd (Prod.snd (val (v14 x7 x8 x9))))) (Int.tmod (IntKind.wrap IntKind.i64 x0) (IntKind.wrap IntKind.i64 (Int.tdiv (↑(List.length x8) : Int) x7))) x1)))))))) (Prod.fst (Prod.snd (val (v14 (Prod.fst (val (v12 (Prod.fst (val (v14 x7 x8 x9))) (Prod.fst (Prod.snd (val (v14 x7 x8 x9)))) (Prod.fst (Prod.snd (Prod.snd (val (v14 x7 x8 x9))))) (Int.tmod (IntKind.wrap IntKind.i64 x0) (IntKind.wrap IntKind.i64 (Int.tdiv (↑(List.length x8) : Int) x7))) x1))) (Prod.fst (Prod.snd (val (v12 (Prod.fst (val (v14 x7 x8 x9))) (Prod.fst (Prod.snd (val (v14 x7 x8 x9)))) (Prod.fst (Prod.snd (Prod.snd (val (v14 x7 x8 x9))))) (Int.tmod (IntKind.wrap IntKind.i64 x0) (IntKind.wrap IntKind.i64 (Int.tdiv (↑(List.length x8) : Int) x7))) x1)))) (Prod.fst (Prod.snd (Prod.snd (val (v12 (Prod.fst (val (v14 x7 x8 x9))) (Prod.fst (Prod.snd (val (v14 x7 x8 x9)))) (Prod.fst (Prod.snd (Prod.snd (val (v14 x7 x8 x9))))) (Int.tmod (IntKind.wrap IntKind.i64 x0) (IntKind.wrap IntKind.i64 (Int.tdiv (↑(List.length x8) : Int) x7))) x1))))))))) (Prod.fst (Prod.snd (Prod.snd (val (v14 (Prod.fst (val (v12 (Prod.fst (val (v14 x7 x8 x9))) (Prod.fst (Prod.snd (val (v14 x7 x8 x9)))) (Prod.fst (Prod.snd (Prod.snd (val (v14 x7 x8 x9))))) (Int.tmod (IntKind.wrap IntKind.i64 x0) (IntKind.wrap IntKind.i64 (Int.tdiv (↑(List.length x8) : Int) x7))) x1))) (Prod.fst (Prod.snd (val (v12 (Prod.fst (val (v14 x7 x8 x9))) (Prod.fst (Prod.snd (val (v14 x7 x8 x9)))) (Prod.fst (Prod.snd (Prod.snd (val (v14 x7 x8 x9))))) (Int.tmod (IntKind.wrap IntKind.i64 x0) (IntKind.wrap IntKind.i64 (Int.tdiv (↑(List.length x8) : Int) x7))) x1)))) (Prod.fst (Prod.snd (Prod.snd (val (v12 (Prod.fst (val (v14 x7 x8 x9))) (Prod.fst (Prod.snd (val (v14 x7 x8 x9)))) (Prod.fst (Prod.snd (Prod.snd (val (v14 x7 x8 x9))))) (Int.tmod (IntKind.wrap IntKind.i64 x0) (IntKind.wrap IntKind.i64 (Int.tdiv (↑(List.length x8) : Int) x7))) x1)))))))))))))))], lo := [], h := [], n0 := 0 }) none)))) none) none) none) none) none) := by kernel_rfl
theorem lL9_36_0 (k : Nat) (x0 : Int) (x1 : (List Int)) (x2 : (List (List Int))) (x3 : (List Bool)) (x4 : Int) (x5 : Int) (x6 : Bool) (x7 : Int) (x8 : (List Int)) (x9 : (List (Int × (List Int)))) (r : Bool) : L9_36_0 x0 x1 x2 x3 x4 x5 x6 x7 x8 x9 = some r → pieceBody Try.prog (mkTn base o38 t38 9) (TM.evF Try.prog (mkTn base o38 t38) dOk (k + 40)) dOk (k + 40) (codeAt Try.prog (tn0 9) 9 36) 0 36 { sl := [(1, .v (.sc (.int .u8 (x0)))), (2, .v (.sc (.d 5 (.int .u8) (x1)))), (3, .v (.sc (.d 22 (.list 5 (.int .u8)) (x2)))), (4, .v (.sc (.d 4 .bool (x3)))), (5, .v (.sc (.int .i64 (x4)))), (6, .v (.sc (.int .i64 (x5)))), (7, .l 7 0), (15, .v (.sc (.bool (x6))))], lo := [(7, [.int .i64 (x7), .d 5 (.int .u8) (x8), .d 44 (.pair (.int .i64) (.list 5 (.int .u8))) (x9)])], h := [], n0 := 0 } (fun e s => some (e, s)) = some (xL9_36_0 x0 x1 x2 x3 x4 x5 x6 x7 x8 x9 r) := by
  rw [bL9_36_0]
  unfold L9_36_0
  cases (decide (x7 ≠ (0 : Int))) with
  | true =>
    cases (decide (IntKind.wrap IntKind.i64 (Int.tdiv (↑(List.length x8) : Int) x7) ≠ (0 : Int))) with
    | true =>
      cases (ok (v14 x7 x8 x9)) with
      | true =>
        cases (ok (v12 (Prod.fst (val (v14 x7 x8 x9))) (Prod.fst (Prod.snd (val (v14 x7 x8 x9)))) (Prod.fst (Prod.snd (Prod.snd (val (v14 x7 x8 x9))))) (Int.tmod (IntKind.wrap IntKind.i64 x0) (IntKind.wrap IntKind.i64 (Int.tdiv (↑(List.length x8) : Int) x7))) x1)) with
        | true =>
          cases (ok (v14 (Prod.fst (val (v12 (Prod.fst (val (v14 x7 x8 x9))) (Prod.fst (Prod.snd (val (v14 x7 x8 x9)))) (Prod.fst (Prod.snd (Prod.snd (val (v14 x7 x8 x9))))) (Int.tmod (IntKind.wrap IntKind.i64 x0) (IntKind.wrap IntKind.i64 (Int.tdiv (↑(List.length x8) : Int) x7))) x1))) (Prod.fst (Prod.snd (val (v12 (Prod.fst (val (v14 x7 x8 x9))) (Prod.fst (Prod.snd (val (v14 x7 x8 x9)))) (Prod.fst (Prod.snd (Prod.snd (val (v14 x7 x8 x9))))) (Int.tmod (IntKind.wrap IntKind.i64 x0) (IntKind.wrap IntKind.i64 (Int.tdiv (↑(List.length x8) : Int) x7))) x1)))) (Prod.fst (Prod.snd (Prod.snd (val (v12 (Prod.fst (val (v14 x7 x8 x9))) (Prod.fst (Prod.snd (val (v14 x7 x8 x9)))) (Prod.fst (Prod.snd (Prod.snd (val (v14 x7 x8 x9))))) (Int.tmod (IntKind.wrap IntKind.i64 x0) (IntKind.wrap IntKind.i64 (Int.tdiv (↑(List.length x8) : Int) x7))) x1))))))) with
          | true =>
            cases (Prod.snd (Prod.snd (Prod.snd (val (v14 x7 x8 x9)))) != (0 : Int)) with
            | true =>
              cases x6 with
              | true =>
                intro h; cases h; rfl
              | false =>
                intro h; cases h; rfl
            | false =>
              cases (Prod.snd (Prod.snd (Prod.snd (val (v12 (Prod.fst (val (v14 x7 x8 x9))) (Prod.fst (Prod.snd (val (v14 x7 x8 x9)))) (Prod.fst (Prod.snd (Prod.snd (val (v14 x7 x8 x9))))) (Int.tmod (IntKind.wrap IntKind.i64 x0) (IntKind.wrap IntKind.i64 (Int.tdiv (↑(List.length x8) : Int) x7))) x1)))) != (0 : Int)) with
              | true =>
                cases x6 with
                | true =>
                  intro h; cases h; rfl
                | false =>
                  intro h; cases h; rfl
              | false =>
                cases (Prod.snd (Prod.snd (Prod.snd (val (v14 (Prod.fst (val (v12 (Prod.fst (val (v14 x7 x8 x9))) (Prod.fst (Prod.snd (val (v14 x7 x8 x9)))) (Prod.fst (Prod.snd (Prod.snd (val (v14 x7 x8 x9))))) (Int.tmod (IntKind.wrap IntKind.i64 x0) (IntKind.wrap IntKind.i64 (Int.tdiv (↑(List.length x8) : Int) x7))) x1))) (Prod.fst (Prod.snd (val (v12 (Prod.fst (val (v14 x7 x8 x9))) (Prod.fst (Prod.snd (val (v14 x7 x8 x9)))) (Prod.fst (Prod.snd (Prod.snd (val (v14 x7 x8 x9))))) (Int.tmod (IntKind.wrap IntKind.i64 x0) (IntKind.wrap IntKind.i64 (Int.tdiv (↑(List.length x8) : Int) x7))) x1)))) (Prod.fst (Prod.snd (Prod.snd (val (v12 (Prod.fst (val (v14 x7 x8 x9))) (Prod.fst (Prod.snd (val (v14 x7 x8 x9)))) (Prod.fst (Prod.snd (Prod.snd (val (v14 x7 x8 x9))))) (Int.tmod (IntKind.wrap IntKind.i64 x0) (IntKind.wrap IntKind.i64 (Int.tdiv (↑(List.length x8) : Int) x7))) x1))))))))) != (0 : Int)) with
                | true =>
                  intro h; cases h; rfl
                | false =>
                  cases (ok (L9_108_0 x1 x2 x3 x4 x5 x6 (IntKind.wrap IntKind.i64 (Int.tdiv (↑(List.length x8) : Int) x7)) (Int.tmod (IntKind.wrap IntKind.i64 x0) (IntKind.wrap IntKind.i64 (Int.tdiv (↑(List.length x8) : Int) x7))) (Prod.fst (val (v14 (Prod.fst (val (v12 (Prod.fst (val (v14 x7 x8 x9))) (Prod.fst (Prod.snd (val (v14 x7 x8 x9)))) (Prod.fst (Prod.snd (Prod.snd (val (v14 x7 x8 x9))))) (Int.tmod (IntKind.wrap IntKind.i64 x0) (IntKind.wrap IntKind.i64 (Int.tdiv (↑(List.length x8) : Int) x7))) x1))) (Prod.fst (Prod.snd (val (v12 (Prod.fst (val (v14 x7 x8 x9))) (Prod.fst (Prod.snd (val (v14 x7 x8 x9)))) (Prod.fst (Prod.snd (Prod.snd (val (v14 x7 x8 x9))))) (Int.tmod (IntKind.wrap IntKind.i64 x0) (IntKind.wrap IntKind.i64 (Int.tdiv (↑(List.length x8) : Int) x7))) x1)))) (Prod.fst (Prod.snd (Prod.snd (val (v12 (Prod.fst (val (v14 x7 x8 x9))) (Prod.fst (Prod.snd (val (v14 x7 x8 x9)))) (Prod.fst (Prod.snd (Prod.snd (val (v14 x7 x8 x9))))) (Int.tmod (IntKind.wrap IntKind.i64 x0) (IntKind.wrap IntKind.i64 (Int.tdiv (↑(List.length x8) : Int) x7))) x1)))))))) (Prod.fst (Prod.snd (val (v14 (Prod.fst (val (v12 (Prod.fst (val (v14 x7 x8 x9))) (Prod.fst (Prod.snd (val (v14 x7 x8 x9)))) (Prod.fst (Prod.snd (Prod.snd (val (v14 x7 x8 x9))))) (Int.tmod (IntKind.wrap IntKind.i64 x0) (IntKind.wrap IntKind.i64 (Int.tdiv (↑(List.length x8) : Int) x7))) x1))) (Prod.fst (Prod.snd (val (v12 (Prod.fst (val (v14 x7 x8 x9))) (Prod.fst (Prod.snd (val (v14 x7 x8 x9)))) (Prod.fst (Prod.snd (Prod.snd (val (v14 x7 x8 x9))))) (Int.tmod (IntKind.wrap IntKind.i64 x0) (IntKind.wrap IntKind.i64 (Int.tdiv (↑(List.length x8) : Int) x7))) x1)))) (Prod.fst (Prod.snd (Prod.snd (val (v12 (Prod.fst (val (v14 x7 x8 x9))) (Prod.fst (Prod.snd (val (v14 x7 x8 x9)))) (Prod.fst (Prod.snd (Prod.snd (val (v14 x7 x8 x9))))) (Int.tmod (IntKind.wrap IntKind.i64 x0) (IntKind.wrap IntKind.i64 (Int.tdiv (↑(List.length x8) : Int) x7))) x1))))))))) (Prod.fst (Prod.snd (Prod.snd (val (v14 (Prod.fst (val (v12 (Prod.fst (val (v14 x7 x8 x9))) (Prod.fst (Prod.snd (val (v14 x7 x8 x9)))) (Prod.fst (Prod.snd (Prod.snd (val (v14 x7 x8 x9))))) (Int.tmod (IntKind.wrap IntKind.i64 x0) (IntKind.wrap IntKind.i64 (Int.tdiv (↑(List.length x8) : Int) x7))) x1))) (Prod.fst (Prod.snd (val (v12 (Prod.fst (val (v14 x7 x8 x9))) (Prod.fst (Prod.snd (val (v14 x7 x8 x9)))) (Prod.fst (Prod.snd (Prod.snd (val (v14 x7 x8 x9))))) (Int.tmod (IntKind.wrap IntKind.i64 x0) (IntKind.wrap IntKind.i64 (Int.tdiv (↑(List.length x8) : Int) x7))) x1)))) (Prod.fst (Prod.snd (Prod.snd (val (v12 (Prod.fst (val (v14 x7 x8 x9))) (Prod.fst (Prod.snd (val (v14 x7 x8 x9)))) (Prod.fst (Prod.snd (Prod.snd (val (v14 x7 x8 x9))))) (Int.tmod (IntKind.wrap IntKind.i64 x0) (IntKind.wrap IntKind.i64 (Int.tdiv (↑(List.length x8) : Int) x7))) x1)))))))))))) with
                  | true =>
                    intro h; cases h; rfl
                  | false =>
                    intro h; cases h
          | false =>
            intro h; cases h
        | false =>
          intro h; cases h
      | false =>
        intro h; cases h
    | false =>
      intro h; cases h
  | false =>
    intro h; cases h
def sL9_36_0 : TellS := fun S => match S with
  | { sl := [(1, .v (.sc (.int .u8 (x0)))), (2, .v (.sc (.d 5 (.int .u8) (x1)))), (3, .v (.sc (.d 22 (.list 5 (.int .u8)) (x2)))), (4, .v (.sc (.d 4 .bool (x3)))), (5, .v (.sc (.int .i64 (x4)))), (6, .v (.sc (.int .i64 (x5)))), (7, .l 7 0), (15, .v (.sc (.bool (x6))))], lo := [(7, [.int .i64 (x7), .d 5 (.int .u8) (x8), .d 44 (.pair (.int .i64) (.list 5 (.int .u8))) (x9)])], h := [], n0 := 0 } => some [(ok (L9_36_0 x0 x1 x2 x3 x4 x5 x6 x7 x8 x9), .ret, { sl := [(14, .v (.sc (.bool ((val (L9_36_0 x0 x1 x2 x3 x4 x5 x6 x7 x8 x9))))))], lo := [], h := [], n0 := 0 })]
  | _ => none
theorem wL9_36_0 : NewTell Try.prog dOk base o38 t38 ((9, 36), sL9_36_0) := by
  refine ⟨(codeAt Try.prog (tn0 9) 9 36), 0, by kernel_rfl, ?_⟩
  intro S alts e S' h1 h2
  have h1 : sL9_36_0 S = some alts := h1
  unfold sL9_36_0 at h1
  split at h1
  · cases h1
    obtain ⟨hc0, rfl, rfl⟩ := pick_one h2
    exact ⟨0 + 40, (evPiece_code rfl).trans (lL9_36_0 0 _ _ _ _ _ _ _ _ _ _ _ (ok_val hc0))⟩
  · cases h1
def o39 : OrcT := o38
def t39 : TellT := ((9, 36), sL9_36_0) :: t38
abbrev tn39 : FuncId → TAn := mkTn base o39 t39
theorem ok39 : TnOk Try.prog tn39 (mkA base) dOk := by
  have h0 : TnOk Try.prog (mkTn base o38 t38) (mkA base) dOk := ok38
  have h1 := tn_tell h0 h0 (p := ((9, 36), sL9_36_0)) wL9_36_0
  exact h1
end Go.Proofs.Ytchgjjgdgbecmaa
set_option maxRecDepth 1000000
set_option linter.unusedVariables false
set_option maxHeartbeats 4000000
namespace Go.Proofs.Ytchgjjgdgbecmaa
open Go Go.AM Go.TM Go.Proofs
/-- queuelablaw35.DiskSafe -/
def v9 (x0 : Int) (x1 : (List Int)) (x2 : (List (Int × (List Int)))) (x3 : Int) (x4 : (List Int)) (x5 : (List (List Int))) (x6 : (List Bool)) (x7 : Int) (x8 : Int) : Option Bool := (cond (ok (v26 x0 x1 x2)) (cond (!val (v26 x0 x1 x2)) (some (true)) (cond (decide ((↑(List.length x5) : Int) > (64 : Int))) (some (true)) (cond (ok (L9_36_0 x3 x4 x5 x6 x7 x8 (val v10) x0 x1 x2)) (some (val (L9_36_0 x3 x4 x5 x6 x7 x8 (val v10) x0 x1 x2))) none))) none)
theorem ev9 (x0 : Int) (x1 : (List Int)) (x2 : (List (Int × (List Int)))) (x3 : Int) (x4 : (List Int)) (x5 : (List (List Int))) (x6 : (List Bool)) (x7 : Int) (x8 : Int) : fnBody Try.prog (mkTn base o39 t39 9) (TM.evF Try.prog (mkTn base o39 t39) dOk 40) dOk 40 9 [.agg [.int .i64 (x0), .d 5 (.int .u8) (x1), .d 44 (.pair (.int .i64) (.list 5 (.int .u8))) (x2)], .sc (.int .u8 (x3)), .sc (.d 5 (.int .u8) (x4)), .sc (.d 22 (.list 5 (.int .u8)) (x5)), .sc (.d 4 .bool (x6)), .sc (.int .i64 (x7)), .sc (.int .i64 (x8))] [] = (v9 x0 x1 x2 x3 x4 x5 x6 x7 x8).bind fun r => some ([.sc (.bool (r))], []) := by
  have h : fnBody Try.prog (mkTn base o39 t39 9) (TM.evF Try.prog (mkTn base o39 t39) dOk 40) dOk 40 9 [.agg [.int .i64 (x0), .d 5 (.int .u8) (x1), .d 44 (.pair (.int .i64) (.list 5 (.int .u8))) (x2)], .sc (.int .u8 (x3)), .sc (.d 5 (.int .u8) (x4)), .sc (.d 22 (.list 5 (.int .u8)) (x5)), .sc (.d 4 .bool (x6)), .sc (.int .i64 (x7)), .sc (.int .i64 (x8))] [] = (cond (ok (v26 x0 x1 x2)) (cond (!val (v26 x0 x1 x2)) (some ([.sc (.bool (true))], [])) (cond (decide ((↑(List.length x5) : Int) > (64 : Int))) (some ([.sc (.bool (true))], [])) (cond (ok (L9_36_0 x3 x4 x5 x6 x7 x8 (val v10) x0 x1 x2)) (some ([.sc (.bool (val (L9_36_0 x3 x4 x5 x6 x7 x8 (val v10) x0 x1 x2)))], [])) none))) none) := by kernel_rfl
  rw [h]
  unfold v9
  cases (ok (v26 x0 x1 x2)) with
  | true =>
    cases (!val (v26 x0 x1 x2)) with
    | true =>
      rfl
    | false =>
      cases (decide ((↑(List.length x5) : Int) > (64 : Int))) with
      | true =>
        rfl
      | false =>
        cases (ok (L9_36_0 x3 x4 x5 x6 x7 x8 (val v10) x0 x1 x2)) with
        | true =>
          rfl
        | false =>
          rfl
  | false =>
    rfl
def sv9 : OrcS := fun al H => match al, H with
  | [.agg [.int .i64 (x0), .d 5 (.int .u8) (x1), .d 44 (.pair (.int .i64) (.list 5 (.int .u8))) (x2)], .sc (.int .u8 (x3)), .sc (.d 5 (.int .u8) (x4)), .sc (.d 22 (.list 5 (.int .u8)) (x5)), .sc (.d 4 .bool (x6)), .sc (.int .i64 (x7)), .sc (.int .i64 (x8))], [] => some (ok (v9 x0 x1 x2 x3 x4 x5 x6 x7 x8), [.sc (.bool ((val (v9 x0 x1 x2 x3 x4 x5 x6 x7 x8))))], [])
  | _, _ => none
theorem wv9 : NewOrc Try.prog dOk base o39 t39 (9, sv9) := by
  intro al H q hq hq1
  have hq : sv9 al H = some q := hq
  unfold sv9 at hq
  split at hq
  · cases hq
    exact ⟨41, (ev9 _ _ _ _ _ _ _ _ _).trans (ok_bind hq1)⟩
  · cases hq
def o40 : OrcT := (9, sv9) :: o39
def t40 : TellT := t39
abbrev tn40 : FuncId → TAn := mkTn base o40 t40
theorem ok40 : TnOk Try.prog tn40 (mkA base) dOk := by
  have h0 : TnOk Try.prog (mkTn base o39 t39) (mkA base) dOk := ok39
  have h1 := tn_orc h0 h0 (p := (9, sv9)) wv9
  exact h1
end Go.Proofs.Ytchgjjgdgbecmaa
set_option maxRecDepth 1000000
set_option linter.unusedVariables false
set_option maxHeartbeats 4000000
namespace Go.Proofs.Ytchgjjgdgbecmaa
open Go Go.AM Go.TM Go.Proofs
/-- queuelablaw35.DiskTorn: the piece 148 -/
def L8_148_0 (x0 : Bool) (x1 : Int) (x2 : Int) (x3 : Int) (x4 : Int) (x5 : Int) (x6 : Int) (x7 : Int) (x8 : (List Int)) (x9 : (List (Int × (List Int)))) (x10 : Int) (x11 : (List Int)) (x12 : (List (Int × (List Int)))) (x13 : Int) (x14 : (List Int)) (x15 : (List (Int × (List Int)))) (x16 : Int) (x17 : (List Int)) : Option Int := (cond (decide (x4 ≥ (0 : Int))) (cond (decide (x4 < x1)) (cond (decide (x4 < (↑(List.length x17) : Int))) (some (List.getD x17 (Int.toNat x4) (0 : Int))) none) (some (x3))) (some (x3)))
def xL8_148_0 (x0 : Bool) (x1 : Int) (x2 : Int) (x3 : Int) (x4 : Int) (x5 : Int) (x6 : Int) (x7 : Int) (x8 : (List Int)) (x9 : (List (Int × (List Int)))) (x10 : Int) (x11 : (List Int)) (x12 : (List (Int × (List Int)))) (x13 : Int) (x14 : (List Int)) (x15 : (List (Int × (List Int)))) (x16 : Int) (x17 : (List Int)) : Int → Ex × CS := fun r => (.normal, { sl := [(3, .l 3 0), (7, .v (.sc (.bool (x0)))), (9, .v (.sc (.int .i64 (x1)))), (11, .l 11 0), (13, .l 13 0), (15, .l 15 0), (16, .v (.sc (.int .i64 (x2)))), (17, .v (.sc (.int .u8 (r)))), (97, .v (.sc (.int .i64 (x5)))), (98, .v (.sc (.int .i64 (x6))))], lo := [(3, [.int .i64 (x7), .d 5 (.int .u8) (x8), .d 44 (.pair (.int .i64) (.list 5 (.int .u8))) (x9)]), (11, [.int .i64 (x10), .d 5 (.int .u8) (x11), .d 44 (.pair (.int .i64) (.list 5 (.int .u8))) (x12)]), (13, [.int .i64 (x13), .d 5 (.int .u8) (x14), .d 44 (.pair (.int .i64) (.list 5 (.int .u8))) (x15)]), (15, [.int .i64 (x16), .d 5 (.int .u8) (x17)])], h := [], n0 := 0 })
theorem bL8_148_0 (k : Nat) (cX : Ex → CS → Option (Ex × CS)) (x0 : Bool) (x1 : Int) (x2 : Int) (x3 : Int) (x4 : Int) (x5 : Int) (x6 : Int) (x7 : Int) (x8 : (List Int)) (x9 : (List (Int × (List Int)))) (x10 : Int) (x11 : (List Int)) (x12 : (List (Int × (List Int)))) (x13 : Int) (x14 : (List Int)) (x15 : (List (Int × (List Int)))) (x16 : Int) (x17 : (List Int)) : pieceBody Try.prog (mkTn base o40 t40 8) (TM.evF Try.prog (mkTn base o40 t40) dOk (k + 40)) dOk (k + 40) (codeAt Try.prog (tn0 8) 8 148) 1 148 { sl := [(3, .l 3 0), (7, .v (.sc (.bool (x0)))), (9, .v (.sc (.int .i64 (x1)))), (11, .l 11 0), (13, .l 13 0), (15, .l 15 0), (16, .v (.sc (.int .i64 (x2)))), (17, .v (.sc (.int .u8 (x3)))), (18, .v (.sc (.int .i64 (x4)))), (97, .v (.sc (.int .i64 (x5)))), (98, .v (.sc (.int .i64 (x6))))], lo := [(3, [.int .i64 (x7), .d 5 (.int .u8) (x8), .d 44 (.pair (.int .i64) (.list 5 (.int .u8))) (x9)]), (11, [.int .i64 (x10), .d 5 (.int .u8) (x11), .d 44 (.pair (.int .i64) (.list 5 (.int .u8))) (x12)]), (13, [.int .i64 (x13), .d 5 (.int .u8) (x14), .d 44 (.pair (.int .i64) (.list 5 (.int .u8))) (x15)]), (15, [.int .i64 (x16), .d 5 (.int .u8) (x17)])], h := [], n0 := 0 } cX = (cond (decide (x4 ≥ (0 : Int))) (cond (decide (x4 < x1)) (cond (decide ((0 : Int) ≤ x4)) (cond (decide (x4 < (↑(List.length x17) : Int))) (cX .normal { sl := [(3, .l 3 0), (7, .v (.sc (.bool (x0)))), (9, .v (.sc (.int .i64 (x1)))), (11, .l 11 0), (13, .l 13 0), (15, .l 15 0), (16, .v (.sc (.int .i64 (x2)))), (17, .v (.sc (.int .u8 (List.getD x17 (Int.toNat x4) (0 : Int))))), (97, .v (.sc (.int .i64 (x5)))), (98, .v (.sc (.int .i64 (x6))))], lo := [(3, [.int .i64 (x7), .d 5 (.int .u8) (x8), .d 44 (.pair (.int .i64) (.list 5 (.int .u8))) (x9)]), (11, [.int .i64 (x10), .d 5 (.int .u8) (x11), .d 44 (.pair (.int .i64) (.list 5 (.int .u8))) (x12)]), (13, [.int .i64 (x13), .d 5 (.int .u8) (x14), .d 44 (.pair (.int .i64) (.list 5 (.int .u8))) (x15)]), (15, [.int .i64 (x16), .d 5 (.int .u8) (x17)])], h := [], n0 := 0 }) none) none) (cX .normal { sl := [(3, .l 3 0), (7, .v (.sc (.bool (x0)))), (9, .v (.sc (.int .i64 (x1)))), (11, .l 11 0), (13, .l 13 0), (15, .l 15 0), (16, .v (.sc (.int .i64 (x2)))), (17, .v (.sc (.int .u8 (x3)))), (97, .v (.sc (.int .i64 (x5)))), (98, .v (.sc (.int .i64 (x6))))], lo := [(3, [.int .i64 (x7), .d 5 (.int .u8) (x8), .d 44 (.pair (.int .i64) (.list 5 (.int .u8))) (x9)]), (11, [.int .i64 (x10), .d 5 (.int .u8) (x11), .d 44 (.pair (.int .i64) (.list 5 (.int .u8))) (x12)]), (13, [.int .i64 (x13), .d 5 (.int .u8) (x14), .d 44 (.pair (.int .i64) (.list 5 (.int .u8))) (x15)]), (15, [.int .i64 (x16), .d 5 (.int .u8) (x17)])], h := [], n0 := 0 })) (cX .normal { sl := [(3, .l 3 0), (7, .v (.sc (.bool (x0)))), (9, .v (.sc (.int .i64 (x1)))), (11, .l 11 0), (13, .l 13 0), (15, .l 15 0), (16, .v (.sc (.int .i64 (x2)))), (17, .v (.sc (.int .u8 (x3)))), (97, .v (.sc (.int .i64 (x5)))), (98, .v (.sc (.int .i64 (x6))))], lo := [(3, [.int .i64 (x7), .d 5 (.int .u8) (x8), .d 44 (.pair (.int .i64) (.list 5 (.int .u8))) (x9)]), (11, [.int .i64 (x10), .d 5 (.int .u8) (x11), .d 44 (.pair (.int .i64) (.list 5 (.int .u8))) (x12)]), (13, [.int .i64 (x13), .d 5 (.int .u8) (x14), .d 44 (.pair (.int .i64) (.list 5 (.int .u8))) (x15)]), (15, [.int .i64 (x16), .d 5 (.int .u8) (x17)])], h := [], n0 := 0 })) := by kernel_rfl
theorem lL8_148_0 (k : Nat) (x0 : Bool) (x1 : Int) (x2 : Int) (x3 : Int) (x4 : Int) (x5 : Int) (x6 : Int) (x7 : Int) (x8 : (List Int)) (x9 : (List (Int × (List Int)))) (x10 : Int) (x11 : (List Int)) (x12 : (List (Int × (List Int)))) (x13 : Int) (x14 : (List Int)) (x15 : (List (Int × (List Int)))) (x16 : Int) (x17 : (List Int)) (r : Int) : L8_148_0 x0 x1 x2 x3 x4 x5 x6 x7 x8 x9 x10 x11 x12 x13 x14 x15 x16 x17 = some r → pieceBody Try.prog (mkTn base o40 t40 8) (TM.evF Try.prog (mkTn base o40 t40) dOk (k + 40)) dOk (k + 40) (codeAt Try.prog (tn0 8) 8 148) 1 148 { sl := [(3, .l 3 0), (7, .v (.sc (.bool (x0)))), (9, .v (.sc (.int .i64 (x1)))), (11, .l 11 0), (13, .l 13 0), (15, .l 15 0), (16, .v (.sc (.int .i64 (x2)))), (17, .v (.sc (.int .u8 (x3)))), (18, .v (.sc (.int .i64 (x4)))), (97, .v (.sc (.int .i64 (x5)))), (98, .v (.sc (.int .i64 (x6))))], lo := [(3, [.int .i64 (x7), .d 5 (.int .u8) (x8), .d 44 (.pair (.int .i64) (.list 5 (.int .u8))) (x9)]), (11, [.int .i64 (x10), .d 5 (.int .u8) (x11), .d 44 (.pair (.int .i64) (.list 5 (.int .u8))) (x12)]), (13, [.int .i64 (x13), .d 5 (.int .u8) (x14), .d 44 (.pair (.int .i64) (.list 5 (.int .u8))) (x15)]), (15, [.int .i64 (x16), .d 5 (.int .u8) (x17)])], h := [], n0 := 0 } (fun e s => some (e, s)) = some (xL8_148_0 x0 x1 x2 x3 x4 x5 x6 x7 x8 x9 x10 x11 x12 x13 x14 x15 x16 x17 r) := by
  rw [bL8_148_0]
  unfold L8_148_0
  cases (decide (x4 ≥ (0 : Int))) with
  | true =>
    cases (decide (x4 < x1)) with
    | true =>
      cases (decide (x4 < (↑(List.length x17) : Int))) with
      | true =>
        intro h; cases h; rfl
      | false =>
        intro h; cases h
    | false =>
      intro h; cases h; rfl
  | false =>
    intro h; cases h; rfl
def sL8_148_0 : TellS := fun S => match S with
  | { sl := [(3, .l 3 0), (7, .v (.sc (.bool (x0)))), (9, .v (.sc (.int .i64 (x1)))), (11, .l 11 0), (13, .l 13 0), (15, .l 15 0), (16, .v (.sc (.int .i64 (x2)))), (17, .v (.sc (.int .u8 (x3)))), (18, .v (.sc (.int .i64 (x4)))), (97, .v (.sc (.int .i64 (x5)))), (98, .v (.sc (.int .i64 (x6))))], lo := [(3, [.int .i64 (x7), .d 5 (.int .u8) (x8), .d 44 (.pair (.int .i64) (.list 5 (.int .u8))) (x9)]), (11, [.int .i64 (x10), .d 5 (.int .u8) (x11), .d 44 (.pair (.int .i64) (.list 5 (.int .u8))) (x12)]), (13, [.int .i64 (x13), .d 5 (.int .u8) (x14), .d 44 (.pair (.int .i64) (.list 5 (.int .u8))) (x15)]), (15, [.int .i64 (x16), .d 5 (.int .u8) (x17)])], h := [], n0 := 0 } => some [(ok (L8_148_0 x0 x1 x2 x3 x4 x5 x6 x7 x8 x9 x10 x11 x12 x13 x14 x15 x16 x17), .normal, { sl := [(3, .l 3 0), (7, .v (.sc (.bool (x0)))), (9, .v (.sc (.int .i64 (x1)))), (11, .l 11 0), (13, .l 13 0), (15, .l 15 0), (16, .v (.sc (.int .i64 (x2)))), (17, .v (.sc (.int .u8 ((val (L8_148_0 x0 x1 x2 x3 x4 x5 x6 x7 x8 x9 x10 x11 x12 x13 x14 x15 x16 x17)))))), (97, .v (.sc (.int .i64 (x5)))), (98, .v (.sc (.int .i64 (x6))))], lo := [(3, [.int .i64 (x7), .d 5 (.int .u8) (x8), .d 44 (.pair (.int .i64) (.list 5 (.int .u8))) (x9)]), (11, [.int .i64 (x10), .d 5 (.int .u8) (x11), .d 44 (.pair (.int .i64) (.list 5 (.int .u8))) (x12)]), (13, [.int .i64 (x13), .d 5 (.int .u8) (x14), .d 44 (.pair (.int .i64) (.list 5 (.int .u8))) (x15)]), (15, [.int .i64 (x16), .d 5 (.int .u8) (x17)])], h := [], n0 := 0 })]
  | _ => none
theorem wL8_148_0 : NewTell Try.prog dOk base o40 t40 ((8, 148), sL8_148_0) := by
  refine ⟨(codeAt Try.prog (tn0 8) 8 148), 1, by kernel_rfl, ?_⟩
  intro S alts e S' h1 h2
  have h1 : sL8_148_0 S = some alts := h1
  unfold sL8_148_0 at h1
  split at h1
  · cases h1
    obtain ⟨hc0, rfl, rfl⟩ := pick_one h2
    exact ⟨0 + 40, (evPiece_code rfl).trans (lL8_148_0 0 _ _ _ _ _ _ _ _ _ _ _ _ _ _ _ _ _ _ _ (ok_val hc0))⟩
  · cases h1
def o41 : OrcT := o40
def t41 : TellT := ((8, 148), sL8_148_0) :: t40
abbrev tn41 : FuncId → TAn := mkTn base o41 t41
theorem ok41 : TnOk Try.prog tn41 (mkA base) dOk := by
  have h0 : TnOk Try.prog (mkTn base o40 t40) (mkA base) dOk := ok40
  have h1 := tn_tell h0 h0 (p := ((8, 148), sL8_148_0)) wL8_148_0
  exact h1
end Go.Proofs.Ytchgjjgdgbecmaa
set_option maxRecDepth 1000000
set_option linter.unusedVariables false
set_option maxHeartbeats 4000000
namespace Go.Proofs.Ytchgjjgdgbecmaa
open Go Go.AM Go.TM Go.Proofs
/-- queuelablaw35.DiskTorn: the loop 0 -/
def L8_0_0 : Nat → Bool → Int → Int → Int → Int → (List Int) → (List (Int × (List Int))) → Int → (List Int) → (List (Int × (List Int))) → Int → (List Int) → (List (Int × (List Int))) → Int → (List Int) → Option (Bool ⊕ Unit)
  | 0, _, _, _, _, _, _, _, _, _, _, _, _, _, _, _ => none
  | n + 1, x0, x1, x2, x3, x4, x5, x6, x7, x8, x9, x10, x11, x12, x13, x14 => (cond (decide (x3 < x2)) (cond (decide ((0 : Int) ≤ x3)) (cond (decide (x3 < (↑(List.length x8) : Int))) (cond (ok (L8_148_0 x0 x1 x3 (List.getD x8 (Int.toNat x3) (0 : Int)) (IntKind.wrap IntKind.i64 (x3 - IntKind.wrap IntKind.i64 (x13 * x4))) x2 x3 x4 x5 x6 x7 x8 x9 x10 x11 x12 x13 x14)) (cond (decide (x3 < (↑(List.length x11) : Int))) (cond (List.getD x11 (Int.toNat x3) (0 : Int) != val (L8_148_0 x0 x1 x3 (List.getD x8 (Int.toNat x3) (0 : Int)) (IntKind.wrap IntKind.i64 (x3 - IntKind.wrap IntKind.i64 (x13 * x4))) x2 x3 x4 x5 x6 x7 x8 x9 x10 x11 x12 x13 x14)) (some (.inl (false))) (L8_0_0 n (x0) (x1) (x2) (IntKind.wrap IntKind.i64 (x3 + (1 : Int))) (x4) (x5) (x6) (x7) (x8) (x9) (x10) (x11) (x12) (x13) (x14))) none) none) none) none) (some (.inr ())))
theorem qL8_0_0 (n : Nat) (x0 : Bool) (x1 : Int) (x2 : Int) (x3 : Int) (x4 : Int) (x5 : (List Int)) (x6 : (List (Int × (List Int)))) (x7 : Int) (x8 : (List Int)) (x9 : (List (Int × (List Int)))) (x10 : Int) (x11 : (List Int)) (x12 : (List (Int × (List Int)))) (x13 : Int) (x14 : (List Int)) : L8_0_0 (n + 1) x0 x1 x2 x3 x4 x5 x6 x7 x8 x9 x10 x11 x12 x13 x14 = (cond (decide (x3 < x2)) (cond (decide ((0 : Int) ≤ x3)) (cond (decide (x3 < (↑(List.length x8) : Int))) (cond (ok (L8_148_0 x0 x1 x3 (List.getD x8 (Int.toNat x3) (0 : Int)) (IntKind.wrap IntKind.i64 (x3 - IntKind.wrap IntKind.i64 (x13 * x4))) x2 x3 x4 x5 x6 x7 x8 x9 x10 x11 x12 x13 x14)) (cond (decide (x3 < (↑(List.length x11) : Int))) (cond (List.getD x11 (Int.toNat x3) (0 : Int) != val (L8_148_0 x0 x1 x3 (List.getD x8 (Int.toNat x3) (0 : Int)) (IntKind.wrap IntKind.i64 (x3 - IntKind.wrap IntKind.i64 (x13 * x4))) x2 x3 x4 x5 x6 x7 x8 x9 x10 x11 x12 x13 x14)) (some (.inl (false))) (L8_0_0 n (x0) (x1) (x2) (IntKind.wrap IntKind.i64 (x3 + (1 : Int))) (x4) (x5) (x6) (x7) (x8) (x9) (x10) (x11) (x12) (x13) (x14))) none) none) none) none) (some (.inr ()))) := by rfl
def xL8_0_0 (x0 : Bool) (x1 : Int) (x2 : Int) (x3 : Int) (x4 : Int) (x5 : (List Int)) (x6 : (List (Int × (List Int)))) (x7 : Int) (x8 : (List Int)) (x9 : (List (Int × (List Int)))) (x10 : Int) (x11 : (List Int)) (x12 : (List (Int × (List Int)))) (x13 : Int) (x14 : (List Int)) : (Bool ⊕ Unit) → Ex × CS := fun r => match r with | .inl a0 => (.ret, { sl := [(6, .v (.sc (.bool (a0))))], lo := [], h := [], n0 := 0 }) | .inr b0 => ((.exit 0), { sl := [(3, .l 3 0), (7, .v (.sc (.bool (x0)))), (11, .l 11 0), (13, .l 13 0), (15, .l 15 0)], lo := [], h := [], n0 := 0 })
theorem bL8_0_0 (k : Nat) (cN : CS → Option (Ex × CS)) (cX : Ex → CS → Option (Ex × CS)) (x0 : Bool) (x1 : Int) (x2 : Int) (x3 : Int) (x4 : Int) (x5 : (List Int)) (x6 : (List (Int × (List Int)))) (x7 : Int) (x8 : (List Int)) (x9 : (List (Int × (List Int)))) (x10 : Int) (x11 : (List Int)) (x12 : (List (Int × (List Int)))) (x13 : Int) (x14 : (List Int)) : loopBody Try.prog (mkTn base o41 t41 8) (TM.evF Try.prog (mkTn base o41 t41) dOk (k + 40)) dOk (k + 40) (codeAt Try.prog (tn0 8) 8 0) 0 0 { sl := [(3, .l 3 0), (7, .v (.sc (.bool (x0)))), (9, .v (.sc (.int .i64 (x1)))), (11, .l 11 0), (13, .l 13 0), (15, .l 15 0), (97, .v (.sc (.int .i64 (x2)))), (98, .v (.sc (.int .i64 (x3))))], lo := [(3, [.int .i64 (x4), .d 5 (.int .u8) (x5), .d 44 (.pair (.int .i64) (.list 5 (.int .u8))) (x6)]), (11, [.int .i64 (x7), .d 5 (.int .u8) (x8), .d 44 (.pair (.int .i64) (.list 5 (.int .u8))) (x9)]), (13, [.int .i64 (x10), .d 5 (.int .u8) (x11), .d 44 (.pair (.int .i64) (.list 5 (.int .u8))) (x12)]), (15, [.int .i64 (x13), .d 5 (.int .u8) (x14)])], h := [], n0 := 0 } cN cX = (cond (decide (x3 < x2)) (cond (decide ((0 : Int) ≤ x3)) (cond (decide (x3 < (↑(List.length x8) : Int))) (cond (ok (L8_148_0 x0 x1 x3 (List.getD x8 (Int.toNat x3) (0 : Int)) (IntKind.wrap IntKind.i64 (x3 - IntKind.wrap IntKind.i64 (x13 * x4))) x2 x3 x4 x5 x6 x7 x8 x9 x10 x11 x12 x13 x14)) (cond (decide ((0 : Int) ≤ x3)) (cond (decide (x3 < (↑(List.length x11) : Int))) (cond (List.getD x11 (Int.toNat x3) (0 : Int) != val (L8_148_0 x0 x1 x3 (List.getD x8 (Int.toNat x3) (0 : Int)) (IntKind.wrap IntKind.i64 (x3 - IntKind.wrap IntKind.i64 (x13 * x4))) x2 x3 x4 x5 x6 x7 x8 x9 x10 x11 x12 x13 x14)) (cX .ret { sl := [(6, .v (.sc (.bool (false))))], lo := [], h := [], n0 := 0 }) (cN { sl := [(3, .l 3 0), (7, .v (.sc (.bool (x0)))), (9, .v (.sc (.int .i64 (x1)))), (11, .l 11 0), (13, .l 13 0), (15, .l 15 0), (97, .v (.sc (.int .i64 (x2)))), (98, .v (.sc (.int .i64 (IntKind.wrap IntKind.i64 (x3 + (1 : Int))))))], lo := [(3, [.int .i64 (x4), .d 5 (.int .u8) (x5), .d 44 (.pair (.int .i64) (.list 5 (.int .u8))) (x6)]), (11, [.int .i64 (x7), .d 5 (.int .u8) (x8), .d 44 (.pair (.int .i64) (.list 5 (.int .u8))) (x9)]), (13, [.int .i64 (x10), .d 5 (.int .u8) (x11), .d 44 (.pair (.int .i64) (.list 5 (.int .u8))) (x12)]), (15, [.int .i64 (x13), .d 5 (.int .u8) (x14)])], h := [], n0 := 0 })) none) none) none) none) none) (cX (.exit 0) { sl := [(3, .l 3 0), (7, .v (.sc (.bool (x0)))), (11, .l 11 0), (13, .l 13 0), (15, .l 15 0)], lo := [], h := [], n0 := 0 })) := by kernel_rfl
theorem lL8_0_0 (k m : Nat) : ∀ (n : Nat) (x0 : Bool) (x1 : Int) (x2 : Int) (x3 : Int) (x4 : Int) (x5 : (List Int)) (x6 : (List (Int × (List Int)))) (x7 : Int) (x8 : (List Int)) (x9 : (List (Int × (List Int)))) (x10 : Int) (x11 : (List Int)) (x12 : (List (Int × (List Int)))) (x13 : Int) (x14 : (List Int)) (r : (Bool ⊕ Unit)), L8_0_0 n x0 x1 x2 x3 x4 x5 x6 x7 x8 x9 x10 x11 x12 x13 x14 = some r → loopE Try.prog (mkTn base o41 t41 8) (TM.evF Try.prog (mkTn base o41 t41) dOk (k + 40)) dOk (k + 40) (codeAt Try.prog (tn0 8) 8 0) 0 0 (n + m) { sl := [(3, .l 3 0), (7, .v (.sc (.bool (x0)))), (9, .v (.sc (.int .i64 (x1)))), (11, .l 11 0), (13, .l 13 0), (15, .l 15 0), (97, .v (.sc (.int .i64 (x2)))), (98, .v (.sc (.int .i64 (x3))))], lo := [(3, [.int .i64 (x4), .d 5 (.int .u8) (x5), .d 44 (.pair (.int .i64) (.list 5 (.int .u8))) (x6)]), (11, [.int .i64 (x7), .d 5 (.int .u8) (x8), .d 44 (.pair (.int .i64) (.list 5 (.int .u8))) (x9)]), (13, [.int .i64 (x10), .d 5 (.int .u8) (x11), .d 44 (.pair (.int .i64) (.list 5 (.int .u8))) (x12)]), (15, [.int .i64 (x13), .d 5 (.int .u8) (x14)])], h := [], n0 := 0 } = some (xL8_0_0 x0 x1 x2 x3 x4 x5 x6 x7 x8 x9 x10 x11 x12 x13 x14 r) := by
  intro n
  induction n with
  | zero => intro _ _ _ _ _ _ _ _ _ _ _ _ _ _ _ r h; cases h
  | succ n ih =>
    intro x0 x1 x2 x3 x4 x5 x6 x7 x8 x9 x10 x11 x12 x13 x14 r
    rw [show n + 1 + m = n + m + 1 by omega, loop_step, bL8_0_0, qL8_0_0]
    cases (decide (x3 < x2)) with
    | true =>
      cases (decide ((0 : Int) ≤ x3)) with
      | true =>
        cases (decide (x3 < (↑(List.length x8) : Int))) with
        | true =>
          cases (ok (L8_148_0 x0 x1 x3 (List.getD x8 (Int.toNat x3) (0 : Int)) (IntKind.wrap IntKind.i64 (x3 - IntKind.wrap IntKind.i64 (x13 * x4))) x2 x3 x4 x5 x6 x7 x8 x9 x10 x11 x12 x13 x14)) with
          | true =>
            cases (decide (x3 < (↑(List.length x11) : Int))) with
            | true =>
              cases (List.getD x11 (Int.toNat x3) (0 : Int) != val (L8_148_0 x0 x1 x3 (List.getD x8 (Int.toNat x3) (0 : Int)) (IntKind.wrap IntKind.i64 (x3 - IntKind.wrap IntKind.i64 (x13 * x4))) x2 x3 x4 x5 x6 x7 x8 x9 x10 x11 x12 x13 x14)) with
              | true =>
                intro h; cases h; rfl
              | false =>
                exact ih _ _ _ _ _ _ _ _ _ _ _ _ _ _ _ r
            | false =>
              intro h; cases h
          | false =>
            intro h; cases h
        | false =>
          intro h; cases h
      | false =>
        intro h; cases h
    | false =>
      intro h; cases h; rfl
def sL8_0_0 : TellS := fun S => match S with
  | { sl := [(3, .l 3 0), (7, .v (.sc (.bool (x0)))), (9, .v (.sc (.int .i64 (x1)))), (11, .l 11 0), (13, .l 13 0), (15, .l 15 0), (97, .v (.sc (.int .i64 (x2)))), (98, .v (.sc (.int .i64 (x3))))], lo := [(3, [.int .i64 (x4), .d 5 (.int .u8) (x5), .d 44 (.pair (.int .i64) (.list 5 (.int .u8))) (x6)]), (11, [.int .i64 (x7), .d 5 (.int .u8) (x8), .d 44 (.pair (.int .i64) (.list 5 (.int .u8))) (x9)]), (13, [.int .i64 (x10), .d 5 (.int .u8) (x11), .d 44 (.pair (.int .i64) (.list 5 (.int .u8))) (x12)]), (15, [.int .i64 (x13), .d 5 (.int .u8) (x14)])], h := [], n0 := 0 } => some [(isL (L8_0_0 FU x0 x1 x2 x3 x4 x5 x6 x7 x8 x9 x10 x11 x12 x13 x14), .ret, { sl := [(6, .v (.sc (.bool ((getL (L8_0_0 FU x0 x1 x2 x3 x4 x5 x6 x7 x8 x9 x10 x11 x12 x13 x14))))))], lo := [], h := [], n0 := 0 }), (ok (getR (L8_0_0 FU x0 x1 x2 x3 x4 x5 x6 x7 x8 x9 x10 x11 x12 x13 x14)), (.exit 0), { sl := [(3, .l 3 0), (7, .v (.sc (.bool (x0)))), (11, .l 11 0), (13, .l 13 0), (15, .l 15 0)], lo := [], h := [], n0 := 0 })]
  | _ => none
theorem wL8_0_0 : NewTell Try.prog dOk base o41 t41 ((8, 0), sL8_0_0) := by
  refine ⟨.loop (codeAt Try.prog (tn0 8) 8 0), 0, by kernel_rfl, ?_⟩
  intro S alts e S' h1 h2
  have h1 : sL8_0_0 S = some alts := h1
  unfold sL8_0_0 at h1
  split at h1
  · cases h1
    rcases pick_cons h2 with ⟨hc0, rfl, rfl⟩ | h2
    · exact ⟨FU + 40, (evPiece_loop rfl).trans (lL8_0_0 FU 40 FU _ _ _ _ _ _ _ _ _ _ _ _ _ _ _ _ (isL_val hc0))⟩
    obtain ⟨hc1, rfl, rfl⟩ := pick_one h2
    exact ⟨FU + 40, (evPiece_loop rfl).trans (lL8_0_0 FU 40 FU _ _ _ _ _ _ _ _ _ _ _ _ _ _ _ _ (getR_val (ok_val hc1)))⟩
  · cases h1
def o42 : OrcT := o41
def t42 : TellT := ((8, 0), sL8_0_0) :: t41
abbrev tn42 : FuncId → TAn := mkTn base o42 t42
theorem ok42 : TnOk Try.prog tn42 (mkA base) dOk := by
  have h0 : TnOk Try.prog (mkTn base o41 t41) (mkA base) dOk := ok41
  have h1 := tn_tell h0 h0 (p := ((8, 0), sL8_0_0)) wL8_0_0
  exact h1
end Go.Proofs.Ytchgjjgdgbecmaa
set_option maxRecDepth 1000000
set_option linter.unusedVariables false
set_option maxHeartbeats 4000000
namespace Go.Proofs.Ytchgjjgdgbecmaa
open Go Go.AM Go.TM Go.Proofs
/-- queuelablaw35.DiskTorn: the piece 108 -/
def L8_108_0 (x0 : Bool) (x1 : Int) (x2 : Int) (x3 : (List Int)) (x4 : (List (Int × (List Int)))) (x5 : Int) (x6 : (List Int)) (x7 : (List (Int × (List Int)))) (x8 : Int) (x9 : (List Int)) (x10 : (List (Int × (List Int)))) (x11 : Int) (x12 : (List Int)) : Option Bool := (cond (isL (L8_0_0 FU x0 x1 (↑(List.length x6) : Int) (0 : Int) x2 x3 x4 x5 x6 x7 x8 x9 x10 x11 x12)) (some (getL (L8_0_0 FU x0 x1 (↑(List.length x6) : Int) (0 : Int) x2 x3 x4 x5 x6 x7 x8 x9 x10 x11 x12))) (cond (ok (getR (L8_0_0 FU x0 x1 (↑(List.length x6) : Int) (0 : Int) x2 x3 x4 x5 x6 x7 x8 x9 x10 x11 x12))) (some (x0)) none))
def xL8_108_0 (x0 : Bool) (x1 : Int) (x2 : Int) (x3 : (List Int)) (x4 : (List (Int × (List Int)))) (x5 : Int) (x6 : (List Int)) (x7 : (List (Int × (List Int)))) (x8 : Int) (x9 : (List Int)) (x10 : (List (Int × (List Int)))) (x11 : Int) (x12 : (List Int)) : Bool → Ex × CS := fun r => (.ret, { sl := [(6, .v (.sc (.bool (r))))], lo := [], h := [], n0 := 0 })
theorem bL8_108_0 (k : Nat) (cX : Ex → CS → Option (Ex × CS)) (x0 : Bool) (x1 : Int) (x2 : Int) (x3 : (List Int)) (x4 : (List (Int × (List Int)))) (x5 : Int) (x6 : (List Int)) (x7 : (List (Int × (List Int)))) (x8 : Int) (x9 : (List Int)) (x10 : (List (Int × (List Int)))) (x11 : Int) (x12 : (List Int)) : pieceBody Try.prog (mkTn base o42 t42 8) (TM.evF Try.prog (mkTn base o42 t42) dOk (k + 40)) dOk (k + 40) (codeAt Try.prog (tn0 8) 8 108) 0 108 { sl := [(3, .l 3 0), (7, .v (.sc (.bool (x0)))), (9, .v (.sc (.int .i64 (x1)))), (11, .l 11 0), (13, .l 13 0), (15, .l 15 0)], lo := [(3, [.int .i64 (x2), .d 5 (.int .u8) (x3), .d 44 (.pair (.int .i64) (.list 5 (.int .u8))) (x4)]), (11, [.int .i64 (x5), .d 5 (.int .u8) (x6), .d 44 (.pair (.int .i64) (.list 5 (.int .u8))) (x7)]), (13, [.int .i64 (x8), .d 5 (.int .u8) (x9), .d 44 (.pair (.int .i64) (.list 5 (.int .u8))) (x10)]), (15, [.int .i64 (x11), .d 5 (.int .u8) (x12)])], h := [], n0 := 0 } cX = (cond (isL (L8_0_0 FU x0 x1 (↑(List.length x6) : Int) (0 : Int) x2 x3 x4 x5 x6 x7 x8 x9 x10 x11 x12)) (cX .ret { sl := [(6, .v (.sc (.bool (getL (L8_0_0 FU x0 x1 (↑(List.length x6) : Int) (0 : Int) x2 x3 x4 x5 x6 x7 x8 x9 x10 x11 x12)))))], lo := [], h := [], n0 := 0 }) (cond (ok (getR (L8_0_0 FU x0 x1 (↑(List.length x6) : Int) (0 : Int) x2 x3 x4 x5 x6 x7 x8 x9 x10 x11 x12))) (cX .ret { sl := [(6, .v (.sc (.bool (x0))))], lo := [], h := [], n0 := 0 }) none)) := by kernel_rfl
theorem lL8_108_0 (k : Nat) (x0 : Bool) (x1 : Int) (x2 : Int) (x3 : (List Int)) (x4 : (List (Int × (List Int)))) (x5 : Int) (x6 : (List Int)) (x7 : (List (Int × (List Int)))) (x8 : Int) (x9 : (List Int)) (x10 : (List (Int × (List Int)))) (x11 : Int) (x12 : (List Int)) (r : Bool) : L8_108_0 x0 x1 x2 x3 x4 x5 x6 x7 x8 x9 x10 x11 x12 = some r → pieceBody Try.prog (mkTn base o42 t42 8) (TM.evF Try.prog (mkTn base o42 t42) dOk (k + 40)) dOk (k + 40) (codeAt Try.prog (tn0 8) 8 108) 0 108 { sl := [(3, .l 3 0), (7, .v (.sc (.bool (x0)))), (9, .v (.sc (.int .i64 (x1)))), (11, .l 11 0), (13, .l 13 0), (15, .l 15 0)], lo := [(3, [.int .i64 (x2), .d 5 (.int .u8) (x3), .d 44 (.pair (.int .i64) (.list 5 (.int .u8))) (x4)]), (11, [.int .i64 (x5), .d 5 (.int .u8) (x6), .d 44 (.pair (.int .i64) (.list 5 (.int .u8))) (x7)]), (13, [.int .i64 (x8), .d 5 (.int .u8) (x9), .d 44 (.pair (.int .i64) (.list 5 (.int .u8))) (x10)]), (15, [.int .i64 (x11), .d 5 (.int .u8) (x12)])], h := [], n0 := 0 } (fun e s => some (e, s)) = some (xL8_108_0 x0 x1 x2 x3 x4 x5 x6 x7 x8 x9 x10 x11 x12 r) := by
  rw [bL8_108_0]
  unfold L8_108_0
  cases (isL (L8_0_0 FU x0 x1 (↑(List.length x6) : Int) (0 : Int) x2 x3 x4 x5 x6 x7 x8 x9 x10 x11 x12)) with
  | true =>
    intro h; cases h; rfl
  | false =>
    cases (ok (getR (L8_0_0 FU x0 x1 (↑(List.length x6) : Int) (0 : Int) x2 x3 x4 x5 x6 x7 x8 x9 x10 x11 x12))) with
    | true =>
      intro h; cases h; rfl
    | false =>
      intro h; cases h
def sL8_108_0 : TellS := fun S => match S with
  | { sl := [(3, .l 3 0), (7, .v (.sc (.bool (x0)))), (9, .v (.sc (.int .i64 (x1)))), (11, .l 11 0), (13, .l 13 0), (15, .l 15 0)], lo := [(3, [.int .i64 (x2), .d 5 (.int .u8) (x3), .d 44 (.pair (.int .i64) (.list 5 (.int .u8))) (x4)]), (11, [.int .i64 (x5), .d 5 (.int .u8) (x6), .d 44 (.pair (.int .i64) (.list 5 (.int .u8))) (x7)]), (13, [.int .i64 (x8), .d 5 (.int .u8) (x9), .d 44 (.pair (.int .i64) (.list 5 (.int .u8))) (x10)]), (15, [.int .i64 (x11), .d 5 (.int .u8) (x12)])], h := [], n0 := 0 } => some [(ok (L8_108_0 x0 x1 x2 x3 x4 x5 x6 x7 x8 x9 x10 x11 x12), .ret, { sl := [(6, .v (.sc (.bool ((val (L8_108_0 x0 x1 x2 x3 x4 x5 x6 x7 x8 x9 x10 x11 x12))))))], lo := [], h := [], n0 := 0 })]
  | _ => none
theorem wL8_108_0 : NewTell Try.prog dOk base o42 t42 ((8, 108), sL8_108_0) := by
  refine ⟨(codeAt Try.prog (tn0 8) 8 108), 0, by kernel_rfl, ?_⟩
  intro S alts e S' h1 h2
  have h1 : sL8_108_0 S = some alts := h1
  unfold sL8_108_0 at h1
  split at h1
  · cases h1
    obtain ⟨hc0, rfl, rfl⟩ := pick_one h2
    exact ⟨0 + 40, (evPiece_code rfl).trans (lL8_108_0 0 _ _ _ _ _ _ _ _ _ _ _ _ _ _ (ok_val hc0))⟩
  · cases h1
def o43 : OrcT := o42
def t43 : TellT := ((8, 108), sL8_108_0) :: t42
abbrev tn43 : FuncId → TAn := mkTn base o43 t43
theorem ok43 : TnOk Try.prog tn43 (mkA base) dOk := by
  have h0 : TnOk Try.prog (mkTn base o42 t42) (mkA base) dOk := ok42
  have h1 := tn_tell h0 h0 (p := ((8, 108), sL8_108_0)) wL8_108_0
  exact h1
end Go.Proofs.Ytchgjjgdgbecmaa
set_option maxRecDepth 1000000
set_option linter.unusedVariables false
set_option maxHeartbeats 4000000
namespace Go.Proofs.Ytchgjjgdgbecmaa
open Go Go.AM Go.TM Go.Proofs
/-- queuelablaw35.DiskTorn: the piece 52 -/
def L8_52_0 (x0 : (List Bool)) (x1 : Bool) (x2 : Int) (x3 : Int) (x4 : Int) (x5 : (List Int)) (x6 : (List (Int × (List Int)))) : Option Bool := (cond (decide (List.length x0 ≤ nat_lit 2147483648)) (cond (decide ((0 : Int) ≤ IntKind.wrap IntKind.i64 (x2 - (1 : Int)))) (cond (decide (IntKind.wrap IntKind.i64 (x2 - (1 : Int)) < (↑(List.length x0) : Int))) (cond (decide (Int.toNat (IntKind.wrap IntKind.i64 (x2 - (1 : Int))) < List.length x0)) (cond (ok (v16 x4 x5 x6 (List.set x0 (Int.toNat (IntKind.wrap IntKind.i64 (x2 - (1 : Int)))) false) (-1 : Int) (0 : Int))) (cond (ok (v16 x4 x5 x6 x0 (IntKind.wrap IntKind.i64 (x2 - (1 : Int))) x3)) (cond (Prod.snd (Prod.snd (Prod.snd (val (v16 x4 x5 x6 (List.set x0 (Int.toNat (IntKind.wrap IntKind.i64 (x2 - (1 : Int)))) false) (-1 : Int) (0 : Int))))) != (0 : Int)) (some (false)) (cond (Prod.snd (Prod.snd (Prod.snd (val (v16 x4 x5 x6 x0 (IntKind.wrap IntKind.i64 (x2 - (1 : Int))) x3)))) != (0 : Int)) (some (false)) (cond ((↑(List.length (Prod.fst (Prod.snd (val (v16 x4 x5 x6 (List.set x0 (Int.toNat (IntKind.wrap IntKind.i64 (x2 - (1 : Int)))) false) (-1 : Int) (0 : Int)))))) : Int) != (↑(List.length x5) : Int)) (some (false)) (cond ((↑(List.length (Prod.fst (Prod.snd (val (v16 x4 x5 x6 x0 (IntKind.wrap IntKind.i64 (x2 - (1 : Int))) x3))))) : Int) != (↑(List.length x5) : Int)) (some (false)) (cond (decide (IntKind.wrap IntKind.i64 (x2 - (1 : Int)) < (↑(List.length x6) : Int))) (cond (ok (L8_108_0 x1 x3 x4 x5 x6 (Prod.fst (val (v16 x4 x5 x6 (List.set x0 (Int.toNat (IntKind.wrap IntKind.i64 (x2 - (1 : Int)))) false) (-1 : Int) (0 : Int)))) (Prod.fst (Prod.snd (val (v16 x4 x5 x6 (List.set x0 (Int.toNat (IntKind.wrap IntKind.i64 (x2 - (1 : Int)))) false) (-1 : Int) (0 : Int))))) (Prod.fst (Prod.snd (Prod.snd (val (v16 x4 x5 x6 (List.set x0 (Int.toNat (IntKind.wrap IntKind.i64 (x2 - (1 : Int)))) false) (-1 : Int) (0 : Int)))))) (Prod.fst (val (v16 x4 x5 x6 x0 (IntKind.wrap IntKind.i64 (x2 - (1 : Int))) x3))) (Prod.fst (Prod.snd (val (v16 x4 x5 x6 x0 (IntKind.wrap IntKind.i64 (x2 - (1 : Int))) x3)))) (Prod.fst (Prod.snd (Prod.snd (val (v16 x4 x5 x6 x0 (IntKind.wrap IntKind.i64 (x2 - (1 : Int))) x3))))) (Prod.fst (List.getD x6 (Int.toNat (IntKind.wrap IntKind.i64 (x2 - (1 : Int)))) ((0 : Int), []))) (Prod.snd (List.getD x6 (Int.toNat (IntKind.wrap IntKind.i64 (x2 - (1 : Int)))) ((0 : Int), []))))) (some (val (L8_108_0 x1 x3 x4 x5 x6 (Prod.fst (val (v16 x4 x5 x6 (List.set x0 (Int.toNat (IntKind.wrap IntKind.i64 (x2 - (1 : Int)))) false) (-1 : Int) (0 : Int)))) (Prod.fst (Prod.snd (val (v16 x4 x5 x6 (List.set x0 (Int.toNat (IntKind.wrap IntKind.i64 (x2 - (1 : Int)))) false) (-1 : Int) (0 : Int))))) (Prod.fst (Prod.snd (Prod.snd (val (v16 x4 x5 x6 (List.set x0 (Int.toNat (IntKind.wrap IntKind.i64 (x2 - (1 : Int)))) false) (-1 : Int) (0 : Int)))))) (Prod.fst (val (v16 x4 x5 x6 x0 (IntKind.wrap IntKind.i64 (x2 - (1 : Int))) x3))) (Prod.fst (Prod.snd (val (v16 x4 x5 x6 x0 (IntKind.wrap IntKind.i64 (x2 - (1 : Int))) x3)))) (Prod.fst (Prod.snd (Prod.snd (val (v16 x4 x5 x6 x0 (IntKind.wrap IntKind.i64 (x2 - (1 : Int))) x3))))) (Prod.fst (List.getD x6 (Int.toNat (IntKind.wrap IntKind.i64 (x2 - (1 : Int)))) ((0 : Int), []))) (Prod.snd (List.getD x6 (Int.toNat (IntKind.wrap IntKind.i64 (x2 - (1 : Int)))) ((0 : Int), [])))))) none) none))))) none) none) none) none) none) none)
def xL8_52_0 (x0 : (List Bool)) (x1 : Bool) (x2 : Int) (x3 : Int) (x4 : Int) (x5 : (List Int)) (x6 : (List (Int × (List Int)))) : Bool → Ex × CS := fun r => (.ret, { sl := [(6, .v (.sc (.bool (r))))], lo := [], h := [], n0 := 0 })
theorem bL8_52_0 (k : Nat) (cX : Ex → CS → Option (Ex × CS)) (x0 : (List Bool)) (x1 : Bool) (x2 : Int) (x3 : Int) (x4 : Int) (x5 : (List Int)) (x6 : (List (Int × (List Int)))) : pieceBody Try.prog (mkTn base o43 t43 8) (TM.evF Try.prog (mkTn base o43 t43) dOk (k + 40)) dOk (k + 40) (codeAt Try.prog (tn0 8) 8 52) 0 52 { sl := [(1, .v (.sc (.d 4 .bool (x0)))), (3, .l 3 0), (7, .v (.sc (.bool (x1)))), (8, .v (.sc (.int .i64 (x2)))), (9, .v (.sc (.int .i64 (x3))))], lo := [(3, [.int .i64 (x4), .d 5 (.int .u8) (x5), .d 44 (.pair (.int .i64) (.list 5 (.int .u8))) (x6)])], h := [], n0 := 0 } cX = (cond (decide (List.length x0 ≤ nat_lit 2147483648)) (cond (decide ((0 : Int) ≤ IntKind.wrap IntKind.i64 (x2 - (1 : Int)))) (cond (decide (IntKind.wrap IntKind.i64 (x2 - (1 : Int)) < (↑(List.length x0) : Int))) (cond (decide (Int.toNat (IntKind.wrap IntKind.i64 (x2 - (1 : Int))) < List.length x0)) (cond (ok (v16 x4 x5 x6 (List.set x0 (Int.toNat (IntKind.wrap IntKind.i64 (x2 - (1 : Int)))) false) (-1 : Int) (0 : Int))) (cond (ok (v16 x4 x5 x6 x0 (IntKind.wrap IntKind.i64 (x2 - (1 : Int))) x3)) (cond (Prod.snd (Prod.snd (Prod.snd (val (v16 x4 x5 x6 (List.set x0 (Int.toNat (IntKind.wrap IntKind.i64 (x2 - (1 : Int)))) false) (-1 : Int) (0 : Int))))) != (0 : Int)) (cX .ret { sl := [(6, .v (.sc (.bool (false))))], lo := [], h := [], n0 := 0 }) (cond (Prod.snd (Prod.snd (Prod.snd (val (v16 x4 x5 x6 x0 (IntKind.wrap IntKind.i64 (x2 - (1 : Int))) x3)))) != (0 : Int)) (cX .ret { sl := [(6, .v (.sc (.bool (false))))], lo := [], h := [], n0 := 0 }) (cond ((↑(List.length (Prod.fst (Prod.snd (val (v16 x4 x5 x6 (List.set x0 (Int.toNat (IntKind.wrap IntKind.i64 (x2 - (1 : Int)))) false) (-1 : Int) (0 : Int)))))) : Int) != (↑(List.length x5) : Int)) (cX .ret { sl := [(6, .v (.sc (.bool (false))))], lo := [], h := [], n0 := 0 }) (cond ((↑(List.length (Prod.fst (Prod.snd (val (v16 x4 x5 x6 x0 (IntKind.wrap IntKind.i64 (x2 - (1 : Int))) x3))))) : Int) != (↑(List.length x5) : Int)) (cX .ret { sl := [(6, .v (.sc (.bool (false))))], lo := [], h := [], n0 := 0 }) (cond (decide ((0 : Int) ≤ IntKind.wrap IntKind.i64 (x2 - (1 : Int)))) (cond (decide (IntKind.wrap IntKind.i64 (x2 - (1 : Int)) < (↑(List.length x6) : Int))) (cond (ok (L8_108_0 x1 x3 x4 x5 x6 (Prod.fst (val (v16 x4 x5 x6 (List.set x0 (Int.toNat (IntKind.wrap IntKind.i64 (x2 - (1 : Int)))) false) (-1 : Int) (0 : Int)))) (Prod.fst (Prod.snd (val (v16 x4 x5 x6 (List.set x0 (Int.toNat (IntKind.wrap IntKind.i64 (x2 - (1 : Int)))) false) (-1 : Int) (0 : Int))))) (Prod.fst (Prod.snd (Prod.snd (val (v16 x4 x5 x6 (List.set x0 (Int.toNat (IntKind.wrap IntKind.i64 (x2 - (1 : Int)))) false) (-1 : Int) (0 : Int)))))) (Prod.fst (val (v16 x4 x5 x6 x0 (IntKind.wrap IntKind.i64 (x2 - (1 : Int))) x3))) (Prod.fst (Prod.snd (val (v16 x4 x5 x6 x0 (IntKind.wrap IntKind.i64 (x2 - (1 : Int))) x3)))) (Prod.fst (Prod.snd (Prod.snd (val (v16 x4 x5 x6 x0 (IntKind.wrap IntKind.i64 (x2 - (1 : Int))) x3))))) (Prod.fst (List.getD x6 (Int.toNat (IntKind.wrap IntKind.i64 (x2 - (1 : Int)))) ((0 : Int), []))) (Prod.snd (List.getD x6 (Int.toNat (IntKind.wrap IntKind.i64 (x2 - (1 : Int)))) ((0 : Int), []))))) (cX .ret { sl := [(6, .v (.sc (.bool (val (L8_108_0 x1 x3 x4 x5 x6 (Prod.fst (val (v16 x4 x5 x6 (List.set x0 (Int.toNat (IntKind.wrap IntKind.i64 (x2 - (1 : Int)))) false) (-1 : Int) (0 : Int)))) (Prod.fst (Prod.snd (val (v16 x4 x5 x6 (List.set x0 (Int.toNat (IntKind.wrap IntKind.i64 (x2 - (1 : Int)))) false) (-1 : Int) (0 : Int))))) (Prod.fst (Prod.snd (Prod.snd (val (v16 x4 x5 x6 (List.set x0 (Int.toNat (IntKind.wrap IntKind.i64 (x2 - (1 : Int)))) false) (-1 : Int) (0 : Int)))))) (Prod.fst (val (v16 x4 x5 x6 x0 (IntKind.wrap IntKind.i64 (x2 - (1 : Int))) x3))) (Prod.fst (Prod.snd (val (v16 x4 x5 x6 x0 (IntKind.wrap IntKind.i64 (x2 - (1 : Int))) x3)))) (Prod.fst (Prod.snd (Prod.snd (val (v16 x4 x5 x6 x0 (IntKind.wrap IntKind.i64 (x2 - (1 : Int))) x3))))) (Prod.fst (List.getD x6 (Int.toNat (IntKind.wrap IntKind.i64 (x2 - (1 : Int)))) ((0 : Int), []))) (Prod.snd (List.getD x6 (Int.toNat (IntKind.wrap IntKind.i64 (x2 - (1 : Int)))) ((0 : Int), []))))))))], lo := [], h := [], n0 := 0 }) none) none) none))))) none) none) none) none) none) none) := by kernel_rfl
theorem lL8_52_0 (k : Nat) (x0 : (List Bool)) (x1 : Bool) (x2 : Int) (x3 : Int) (x4 : Int) (x5 : (List Int)) (x6 : (List (Int × (List Int)))) (r : Bool) : L8_52_0 x0 x1 x2 x3 x4 x5 x6 = some r → pieceBody Try.prog (mkTn base o43 t43 8) (TM.evF Try.prog (mkTn base o43 t43) dOk (k + 40)) dOk (k + 40) (codeAt Try.prog (tn0 8) 8 52) 0 52 { sl := [(1, .v (.sc (.d 4 .bool (x0)))), (3, .l 3 0), (7, .v (.sc (.bool (x1)))), (8, .v (.sc (.int .i64 (x2)))), (9, .v (.sc (.int .i64 (x3))))], lo := [(3, [.int .i64 (x4), .d 5 (.int .u8) (x5), .d 44 (.pair (.int .i64) (.list 5 (.int .u8))) (x6)])], h := [], n0 := 0 } (fun e s => some (e, s)) = some (xL8_52_0 x0 x1 x2 x3 x4 x5 x6 r) := by
  rw [bL8_52_0]
  unfold L8_52_0
  cases (decide (List.length x0 ≤ nat_lit 2147483648)) with
  | true =>
    cases (decide ((0 : Int) ≤ IntKind.wrap IntKind.i64 (x2 - (1 : Int)))) with
    | true =>
      cases (decide (IntKind.wrap IntKind.i64 (x2 - (1 : Int)) < (↑(List.length x0) : Int))) with
      | true =>
        cases (decide (Int.toNat (IntKind.wrap IntKind.i64 (x2 - (1 : Int))) < List.length x0)) with
        | true =>
          cases (ok (v16 x4 x5 x6 (List.set x0 (Int.toNat (IntKind.wrap IntKind.i64 (x2 - (1 : Int)))) false) (-1 : Int) (0 : Int))) with
          | true =>
            cases (ok (v16 x4 x5 x6 x0 (IntKind.wrap IntKind.i64 (x2 - (1 : Int))) x3)) with
            | true =>
              cases (Prod.snd (Prod.snd (Prod.snd (val (v16 x4 x5 x6 (List.set x0 (Int.toNat (IntKind.wrap IntKind.i64 (x2 - (1 : Int)))) false) (-1 : Int) (0 : Int))))) != (0 : Int)) with
              | true =>
                intro h; cases h; rfl
              | false =>
                cases (Prod.snd (Prod.snd (Prod.snd (val (v16 x4 x5 x6 x0 (IntKind.wrap IntKind.i64 (x2 - (1 : Int))) x3)))) != (0 : Int)) with
                | true =>
                  intro h; cases h; rfl
                | false =>
                  cases ((↑(List.length (Prod.fst (Prod.snd (val (v16 x4 x5 x6 (List.set x0 (Int.toNat (IntKind.wrap IntKind.i64 (x2 - (1 : Int)))) false) (-1 : Int) (0 : Int)))))) : Int) != (↑(List.length x5) : Int)) with
                  | true =>
                    intro h; cases h; rfl
                  | false =>
                    cases ((↑(List.length (Prod.fst (Prod.snd (val (v16 x4 x5 x6 x0 (IntKind.wrap IntKind.i64 (x2 - (1 : Int))) x3))))) : Int) != (↑(List.length x5) : Int)) with
                    | true =>
                      intro h; cases h; rfl
                    | false =>
                      cases (decide (IntKind.wrap IntKind.i64 (x2 - (1 : Int)) < (↑(List.length x6) : Int))) with
                      | true =>
                        cases (ok (L8_108_0 x1 x3 x4 x5 x6 (Prod.fst (val (v16 x4 x5 x6 (List.set x0 (Int.toNat (IntKind.wrap IntKind.i64 (x2 - (1 : Int)))) false) (-1 : Int) (0 : Int)))) (Prod.fst (Prod.snd (val (v16 x4 x5 x6 (List.set x0 (Int.toNat (IntKind.wrap IntKind.i64 (x2 - (1 : Int)))) false) (-1 : Int) (0 : Int))))) (Prod.fst (Prod.snd (Prod.snd (val (v16 x4 x5 x6 (List.set x0 (Int.toNat (IntKind.wrap IntKind.i64 (x2 - (1 : Int)))) false) (-1 : Int) (0 : Int)))))) (Prod.fst (val (v16 x4 x5 x6 x0 (IntKind.wrap IntKind.i64 (x2 - (1 : Int))) x3))) (Prod.fst (Prod.snd (val (v16 x4 x5 x6 x0 (IntKind.wrap IntKind.i64 (x2 - (1 : Int))) x3)))) (Prod.fst (Prod.snd (Prod.snd (val (v16 x4 x5 x6 x0 (IntKind.wrap IntKind.i64 (x2 - (1 : Int))) x3))))) (Prod.fst (List.getD x6 (Int.toNat (IntKind.wrap IntKind.i64 (x2 - (1 : Int)))) ((0 : Int), []))) (Prod.snd (List.getD x6 (Int.toNat (IntKind.wrap IntKind.i64 (x2 - (1 : Int)))) ((0 : Int), []))))) with
                        | true =>
                          intro h; cases h; rfl
                        | false =>
                          intro h; cases h
                      | false =>
                        intro h; cases h
            | false =>
              intro h; cases h
          | false =>
            intro h; cases h
        | false =>
          intro h; cases h
      | false =>
        intro h; cases h
    | false =>
      intro h; cases h
  | false =>
    intro h; cases h
def sL8_52_0 : TellS := fun S => match S with
  | { sl := [(1, .v (.sc (.d 4 .bool (x0)))), (3, .l 3 0), (7, .v (.sc (.bool (x1)))), (8, .v (.sc (.int .i64 (x2)))), (9, .v (.sc (.int .i64 (x3))))], lo := [(3, [.int .i64 (x4), .d 5 (.int .u8) (x5), .d 44 (.pair (.int .i64) (.list 5 (.int .u8))) (x6)])], h := [], n0 := 0 } => some [(ok (L8_52_0 x0 x1 x2 x3 x4 x5 x6), .ret, { sl := [(6, .v (.sc (.bool ((val (L8_52_0 x0 x1 x2 x3 x4 x5 x6))))))], lo := [], h := [], n0 := 0 })]
  | _ => none
theorem wL8_52_0 : NewTell Try.prog dOk base o43 t43 ((8, 52), sL8_52_0) := by
  refine ⟨(codeAt Try.prog (tn0 8) 8 52), 0, by kernel_rfl, ?_⟩
  intro S alts e S' h1 h2
  have h1 : sL8_52_0 S = some alts := h1
  unfold sL8_52_0 at h1
  split at h1
  · cases h1
    obtain ⟨hc0, rfl, rfl⟩ := pick_one h2
    exact ⟨0 + 40, (evPiece_code rfl).trans (lL8_52_0 0 _ _ _ _ _ _ _ _ (ok_val hc0))⟩
  · cases h1
def o44 : OrcT := o43
def t44 : TellT := ((8, 52), sL8_52_0) :: t43
abbrev tn44 : FuncId → TAn := mkTn base o44 t44
theorem ok44 : TnOk Try.prog tn44 (mkA base) dOk := by
  have h0 : TnOk Try.prog (mkTn base o43 t43) (mkA base) dOk := ok43
  have h1 := tn_tell h0 h0 (p := ((8, 52), sL8_52_0)) wL8_52_0
  exact h1
end Go.Proofs.Ytchgjjgdgbecmaa
set_option maxRecDepth 1000000
set_option linter.unusedVariables false
set_option maxHeartbeats 4000000
namespace Go.Proofs.Ytchgjjgdgbecmaa
open Go Go.AM Go.TM Go.Proofs
/-- queuelablaw35.DiskTorn -/
def v8 (x0 : Int) (x1 : (List Int)) (x2 : (List (Int × (List Int)))) (x3 : (List Bool)) (x4 : Int) : Option Bool := (cond (ok (v26 x0 x1 x2)) (cond (!val (v26 x0 x1 x2)) (some (true)) (cond ((↑(List.length x2) : Int) == (0 : Int)) (some (true)) (cond ((↑(List.length x3) : Int) != (↑(List.length x2) : Int)) (some (true)) (cond (decide (IntKind.wrap IntKind.i64 (x0 + (1 : Int)) ≠ (0 : Int))) (cond (ok (L8_52_0 x3 (val v10) (↑(List.length x2) : Int) (Int.tmod (IntKind.wrap IntKind.i64 x4) (IntKind.wrap IntKind.i64 (x0 + (1 : Int)))) x0 x1 x2)) (some (val (L8_52_0 x3 (val v10) (↑(List.length x2) : Int) (Int.tmod (IntKind.wrap IntKind.i64 x4) (IntKind.wrap IntKind.i64 (x0 + (1 : Int)))) x0 x1 x2))) none) none)))) none)
theorem ev8 (x0 : Int) (x1 : (List Int)) (x2 : (List (Int × (List Int)))) (x3 : (List Bool)) (x4 : Int) : fnBody Try.prog (mkTn base o44 t44 8) (TM.evF Try.prog (mkTn base o44 t44) dOk 40) dOk 40 8 [.agg [.int .i64 (x0), .d 5 (.int .u8) (x1), .d 44 (.pair (.int .i64) (.list 5 (.int .u8))) (x2)], .sc (.d 4 .bool (x3)), .sc (.int .u16 (x4))] [] = (v8 x0 x1 x2 x3 x4).bind fun r => some ([.sc (.bool (r))], []) := by
  have h : fnBody Try.prog (mkTn base o44 t44 8) (TM.evF Try.prog (mkTn base o44 t44) dOk 40) dOk 40 8 [.agg [.int .i64 (x0), .d 5 (.int .u8) (x1), .d 44 (.pair (.int .i64) (.list 5 (.int .u8))) (x2)], .sc (.d 4 .bool (x3)), .sc (.int .u16 (x4))] [] = (cond (ok (v26 x0 x1 x2)) (cond (!val (v26 x0 x1 x2)) (some ([.sc (.bool (true))], [])) (cond ((↑(List.length x2) : Int) == (0 : Int)) (some ([.sc (.bool (true))], [])) (cond ((↑(List.length x3) : Int) != (↑(List.length x2) : Int)) (some ([.sc (.bool (true))], [])) (cond (decide (IntKind.wrap IntKind.i64 (x0 + (1 : Int)) ≠ (0 : Int))) (cond (ok (L8_52_0 x3 (val v10) (↑(List.length x2) : Int) (Int.tmod (IntKind.wrap IntKind.i64 x4) (IntKind.wrap IntKind.i64 (x0 + (1 : Int)))) x0 x1 x2)) (some ([.sc (.bool (val (L8_52_0 x3 (val v10) (↑(List.length x2) : Int) (Int.tmod (IntKind.wrap IntKind.i64 x4) (IntKind.wrap IntKind.i64 (x0 + (1 : Int)))) x0 x1 x2)))], [])) none) none)))) none) := by kernel_rfl
  rw [h]
  unfold v8
  cases (ok (v26 x0 x1 x2)) with
  | true =>
    cases (!val (v26 x0 x1 x2)) with
    | true =>
      rfl
    | false =>
      cases ((↑(List.length x2) : Int) == (0 : Int)) with
      | true =>
        rfl
      | false =>
        cases ((↑(List.length x3) : Int) != (↑(List.length x2) : Int)) with
        | true =>
          rfl
        | false =>
          cases (decide (IntKind.wrap IntKind.i64 (x0 + (1 : Int)) ≠ (0 : Int))) with
          | true =>
            cases (ok (L8_52_0 x3 (val v10) (↑(List.length x2) : Int) (Int.tmod (IntKind.wrap IntKind.i64 x4) (IntKind.wrap IntKind.i64 (x0 + (1 : Int)))) x0 x1 x2)) with
            | true =>
              rfl
            | false =>
              rfl
          | false =>
            rfl
  | false =>
    rfl
def sv8 : OrcS := fun al H => match al, H with
  | [.agg [.int .i64 (x0), .d 5 (.int .u8) (x1), .d 44 (.pair (.int .i64) (.list 5 (.int .u8))) (x2)], .sc (.d 4 .bool (x3)), .sc (.int .u16 (x4))], [] => some (ok (v8 x0 x1 x2 x3 x4), [.sc (.bool ((val (v8 x0 x1 x2 x3 x4))))], [])
  | _, _ => none
theorem wv8 : NewOrc Try.prog dOk base o44 t44 (8, sv8) := by
  intro al H q hq hq1
  have hq : sv8 al H = some q := hq
  unfold sv8 at hq
  split at hq
  · cases hq
    exact ⟨41, (ev8 _ _ _ _ _).trans (ok_bind hq1)⟩
  · cases hq
def o45 : OrcT := (8, sv8) :: o44
def t45 : TellT := t44
abbrev tn45 : FuncId → TAn := mkTn base o45 t45
theorem ok45 : TnOk Try.prog tn45 (mkA base) dOk := by
  have h0 : TnOk Try.prog (mkTn base o44 t44) (mkA base) dOk := ok44
  have h1 := tn_orc h0 h0 (p := (8, sv8)) wv8
  exact h1
end Go.Proofs.Ytchgjjgdgbecmaa
