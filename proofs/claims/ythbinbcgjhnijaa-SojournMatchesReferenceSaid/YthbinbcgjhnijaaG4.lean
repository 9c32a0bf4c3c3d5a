/- What some functions and loops come to: printed and checked. Written by a program of ours. -/
import Derived.Test.YthbinbcgjhnijaaG3
set_option linter.all false
set_option maxRecDepth 1000000
set_option maxHeartbeats 4000000
namespace Go.Proofs.Ythbinbcgjhnijaa
open Go Go.AM Go.TM Go.Proofs
noncomputable def v15 (x0 x1 x2 x3 x4 : Int) (x5 : (List (List (PKt × Int)))) (x6 x7 x8 x9 A B C D E F : Int) : Option (Int × Int × Int × Int × Int × (List (List (PKt × Int))) × Int × Int × Int × Int × Int × Int × Int × Int × Int × Int × Int × Int × Int × Int × Int × Bool × Bool × Bool × (List PKt) × Int) := (cond (ok (v34 x0 x1 x2 x3 x4 x5 x6 x7 x8 x9 A B C D E F)) (cond (val (v34 x0 x1 x2 x3 x4 x5 x6 x7 x8 x9 A B C D E F) != 0) (some (0, 0, 0, 0, 0, [], 0, 0, 0, 0, 0, 0, 0, 0, 0, 0, 0, 0, 0, 0, 0, false, false, false, [], val (v34 x0 x1 x2 x3 x4 x5 x6 x7 x8 x9 A B C D E F))) (cond (decide (0 < (x5.length : Int))) (cond (decide (List.length (List.getD x5 (Int.toNat 0) []) ≤ nat_lit 2147483648)) (cond (isL (Lad FU F x0 x1 x2 x3 x4 x5 x6 x7 x8 x9 A B C D E 0 0 0 0 0 0 0 0 0 0 0 0 0 0 0 0 0 0 0 0 false false (List.getD x5 (Int.toNat 0) []) [] [])) (some (x0, x1, x2, x3, x4, (zb (Lad FU F x0 x1 x2 x3 x4 x5 x6 x7 x8 x9 A B C D E 0 0 0 0 0 0 0 0 0 0 0 0 0 0 0 0 0 0 0 0 false false (List.getD x5 (Int.toNat 0) []) [] [])).2.2.1, (zb (Lad FU F x0 x1 x2 x3 x4 x5 x6 x7 x8 x9 A B C D E 0 0 0 0 0 0 0 0 0 0 0 0 0 0 0 0 0 0 0 0 false false (List.getD x5 (Int.toNat 0) []) [] [])).2.2.2.1, (zb (Lad FU F x0 x1 x2 x3 x4 x5 x6 x7 x8 x9 A B C D E 0 0 0 0 0 0 0 0 0 0 0 0 0 0 0 0 0 0 0 0 false false (List.getD x5 (Int.toNat 0) []) [] [])).2.2.2.2.1, x8, x9, A, B, C, F, E, (zb (Lad FU F x0 x1 x2 x3 x4 x5 x6 x7 x8 x9 A B C D E 0 0 0 0 0 0 0 0 0 0 0 0 0 0 0 0 0 0 0 0 false false (List.getD x5 (Int.toNat 0) []) [] [])).2.2.2.2.2.1, (zb (Lad FU F x0 x1 x2 x3 x4 x5 x6 x7 x8 x9 A B C D E 0 0 0 0 0 0 0 0 0 0 0 0 0 0 0 0 0 0 0 0 false false (List.getD x5 (Int.toNat 0) []) [] [])).2.2.2.2.2.2.1, (zb (Lad FU F x0 x1 x2 x3 x4 x5 x6 x7 x8 x9 A B C D E 0 0 0 0 0 0 0 0 0 0 0 0 0 0 0 0 0 0 0 0 false false (List.getD x5 (Int.toNat 0) []) [] [])).2.2.2.2.2.2.2.1, (zb (Lad FU F x0 x1 x2 x3 x4 x5 x6 x7 x8 x9 A B C D E 0 0 0 0 0 0 0 0 0 0 0 0 0 0 0 0 0 0 0 0 false false (List.getD x5 (Int.toNat 0) []) [] [])).2.2.2.2.2.2.2.2.1, (zb (Lad FU F x0 x1 x2 x3 x4 x5 x6 x7 x8 x9 A B C D E 0 0 0 0 0 0 0 0 0 0 0 0 0 0 0 0 0 0 0 0 false false (List.getD x5 (Int.toNat 0) []) [] [])).2.2.2.2.2.2.2.2.2.1, (zb (Lad FU F x0 x1 x2 x3 x4 x5 x6 x7 x8 x9 A B C D E 0 0 0 0 0 0 0 0 0 0 0 0 0 0 0 0 0 0 0 0 false false (List.getD x5 (Int.toNat 0) []) [] [])).2.2.2.2.2.2.2.2.2.2.1, (zb (Lad FU F x0 x1 x2 x3 x4 x5 x6 x7 x8 x9 A B C D E 0 0 0 0 0 0 0 0 0 0 0 0 0 0 0 0 0 0 0 0 false false (List.getD x5 (Int.toNat 0) []) [] [])).2.2.2.2.2.2.2.2.2.2.2.1, (zb (Lad FU F x0 x1 x2 x3 x4 x5 x6 x7 x8 x9 A B C D E 0 0 0 0 0 0 0 0 0 0 0 0 0 0 0 0 0 0 0 0 false false (List.getD x5 (Int.toNat 0) []) [] [])).2.2.2.2.2.2.2.2.2.2.2.2.1, (zb (Lad FU F x0 x1 x2 x3 x4 x5 x6 x7 x8 x9 A B C D E 0 0 0 0 0 0 0 0 0 0 0 0 0 0 0 0 0 0 0 0 false false (List.getD x5 (Int.toNat 0) []) [] [])).1, (zb (Lad FU F x0 x1 x2 x3 x4 x5 x6 x7 x8 x9 A B C D E 0 0 0 0 0 0 0 0 0 0 0 0 0 0 0 0 0 0 0 0 false false (List.getD x5 (Int.toNat 0) []) [] [])).2.2.2.2.2.2.2.2.2.2.2.2.2, (zb (Lad FU F x0 x1 x2 x3 x4 x5 x6 x7 x8 x9 A B C D E 0 0 0 0 0 0 0 0 0 0 0 0 0 0 0 0 0 0 0 0 false false (List.getD x5 (Int.toNat 0) []) [] [])).2.1)) (cond (ok (za (Lad FU F x0 x1 x2 x3 x4 x5 x6 x7 x8 x9 A B C D E 0 0 0 0 0 0 0 0 0 0 0 0 0 0 0 0 0 0 0 0 false false (List.getD x5 (Int.toNat 0) []) [] []))) (some (x0, x1, x2, x3, x4, [(val (za (Lad FU F x0 x1 x2 x3 x4 x5 x6 x7 x8 x9 A B C D E 0 0 0 0 0 0 0 0 0 0 0 0 0 0 0 0 0 0 0 0 false false (List.getD x5 (Int.toNat 0) []) [] []))).2.2.1], 0, 0, x8, x9, A, B, C, F, E, 0, 0, 0, 0, 0, 0, false, false, false, (val (za (Lad FU F x0 x1 x2 x3 x4 x5 x6 x7 x8 x9 A B C D E 0 0 0 0 0 0 0 0 0 0 0 0 0 0 0 0 0 0 0 0 false false (List.getD x5 (Int.toNat 0) []) [] []))).2.2.2, 0)) none)) none) none)) none)
theorem ev15 (x0 x1 x2 x3 x4 : Int) (x5 : (List (List (PKt × Int)))) (x6 x7 x8 x9 A B C D E F : Int) : zJ Try.prog (tn46 15) (TM.evF Try.prog (tn46) dOk 40) dOk 40 15 [.agg [I4 (x0), I4 (x1), I4 (x2), I4 (x3), I4 (x4), .d 51 (.list 55 QDy) (x5), I4 (x6), I4 (x7), I4 (x8), I4 (x9), I4 (A), I4 (B), I4 (C), I4 (D), .int .u64 (E)], .sc (I4 F)] [] = (v15 x0 x1 x2 x3 x4 x5 x6 x7 x8 x9 A B C D E F).bind fun r => some ([.agg [I4 (r.1), I4 (r.2.1), I4 (r.2.2.1), I4 (r.2.2.2.1), I4 (r.2.2.2.2.1), .d 51 (.list 55 QDy) (r.2.2.2.2.2.1 : List (List (PKt × Int))), I4 (r.2.2.2.2.2.2.1), I4 (r.2.2.2.2.2.2.2.1), I4 (r.2.2.2.2.2.2.2.2.1), I4 (r.2.2.2.2.2.2.2.2.2.1), I4 (r.2.2.2.2.2.2.2.2.2.2.1), I4 (r.2.2.2.2.2.2.2.2.2.2.2.1), I4 (r.2.2.2.2.2.2.2.2.2.2.2.2.1), I4 (r.2.2.2.2.2.2.2.2.2.2.2.2.2.1), .int .u64 (r.2.2.2.2.2.2.2.2.2.2.2.2.2.2.1)], .agg [I4 (r.2.2.2.2.2.2.2.2.2.2.2.2.2.2.2.1), I4 (r.2.2.2.2.2.2.2.2.2.2.2.2.2.2.2.2.1), I4 (r.2.2.2.2.2.2.2.2.2.2.2.2.2.2.2.2.2.1), I4 (r.2.2.2.2.2.2.2.2.2.2.2.2.2.2.2.2.2.2.1), I4 (r.2.2.2.2.2.2.2.2.2.2.2.2.2.2.2.2.2.2.2.1), I4 (r.2.2.2.2.2.2.2.2.2.2.2.2.2.2.2.2.2.2.2.2.1), .bool (r.2.2.2.2.2.2.2.2.2.2.2.2.2.2.2.2.2.2.2.2.2.1), .bool (r.2.2.2.2.2.2.2.2.2.2.2.2.2.2.2.2.2.2.2.2.2.2.1)], .sc (.bool (r.2.2.2.2.2.2.2.2.2.2.2.2.2.2.2.2.2.2.2.2.2.2.2.1)), .sc (.d 30 PKy (r.2.2.2.2.2.2.2.2.2.2.2.2.2.2.2.2.2.2.2.2.2.2.2.2.1 : List PKt)), .sc (I4 (r.2.2.2.2.2.2.2.2.2.2.2.2.2.2.2.2.2.2.2.2.2.2.2.2.2))], []) := by
 refine Eq.trans (b := (cond (ok (v34 x0 x1 x2 x3 x4 x5 x6 x7 x8 x9 A B C D E F)) (cond (val (v34 x0 x1 x2 x3 x4 x5 x6 x7 x8 x9 A B C D E F) != 0) (some ([.agg [I4 (0), I4 (0), I4 (0), I4 (0), I4 (0), .d 51 (.list 55 QDy) ([] : List (List (PKt × Int))), I4 (0), I4 (0), I4 (0), I4 (0), I4 (0), I4 (0), I4 (0), I4 (0), .int .u64 (0)], .agg [I4 (0), I4 (0), I4 (0), I4 (0), I4 (0), I4 (0), .bool (false), .bool (false)], .sc (.bool (false)), .sc (.d 30 PKy ([] : List PKt)), .sc (I4 (val (v34 x0 x1 x2 x3 x4 x5 x6 x7 x8 x9 A B C D E F)))], [])) (cond (decide (0 < (x5.length : Int))) (cond (decide (List.length (List.getD x5 (Int.toNat 0) []) ≤ nat_lit 2147483648)) (cond (isL (Lad FU F x0 x1 x2 x3 x4 x5 x6 x7 x8 x9 A B C D E 0 0 0 0 0 0 0 0 0 0 0 0 0 0 0 0 0 0 0 0 false false (List.getD x5 (Int.toNat 0) []) [] [])) (some ([.agg [I4 (x0), I4 (x1), I4 (x2), I4 (x3), I4 (x4), .d 51 (.list 55 QDy) ((zb (Lad FU F x0 x1 x2 x3 x4 x5 x6 x7 x8 x9 A B C D E 0 0 0 0 0 0 0 0 0 0 0 0 0 0 0 0 0 0 0 0 false false (List.getD x5 (Int.toNat 0) []) [] [])).2.2.1 : List (List (PKt × Int))), I4 (zb (Lad FU F x0 x1 x2 x3 x4 x5 x6 x7 x8 x9 A B C D E 0 0 0 0 0 0 0 0 0 0 0 0 0 0 0 0 0 0 0 0 false false (List.getD x5 (Int.toNat 0) []) [] [])).2.2.2.1, I4 (zb (Lad FU F x0 x1 x2 x3 x4 x5 x6 x7 x8 x9 A B C D E 0 0 0 0 0 0 0 0 0 0 0 0 0 0 0 0 0 0 0 0 false false (List.getD x5 (Int.toNat 0) []) [] [])).2.2.2.2.1, I4 (x8), I4 (x9), I4 (A), I4 (B), I4 (C), I4 (F), .int .u64 (E)], .agg [I4 (zb (Lad FU F x0 x1 x2 x3 x4 x5 x6 x7 x8 x9 A B C D E 0 0 0 0 0 0 0 0 0 0 0 0 0 0 0 0 0 0 0 0 false false (List.getD x5 (Int.toNat 0) []) [] [])).2.2.2.2.2.1, I4 (zb (Lad FU F x0 x1 x2 x3 x4 x5 x6 x7 x8 x9 A B C D E 0 0 0 0 0 0 0 0 0 0 0 0 0 0 0 0 0 0 0 0 false false (List.getD x5 (Int.toNat 0) []) [] [])).2.2.2.2.2.2.1, I4 (zb (Lad FU F x0 x1 x2 x3 x4 x5 x6 x7 x8 x9 A B C D E 0 0 0 0 0 0 0 0 0 0 0 0 0 0 0 0 0 0 0 0 false false (List.getD x5 (Int.toNat 0) []) [] [])).2.2.2.2.2.2.2.1, I4 (zb (Lad FU F x0 x1 x2 x3 x4 x5 x6 x7 x8 x9 A B C D E 0 0 0 0 0 0 0 0 0 0 0 0 0 0 0 0 0 0 0 0 false false (List.getD x5 (Int.toNat 0) []) [] [])).2.2.2.2.2.2.2.2.1, I4 (zb (Lad FU F x0 x1 x2 x3 x4 x5 x6 x7 x8 x9 A B C D E 0 0 0 0 0 0 0 0 0 0 0 0 0 0 0 0 0 0 0 0 false false (List.getD x5 (Int.toNat 0) []) [] [])).2.2.2.2.2.2.2.2.2.1, I4 (zb (Lad FU F x0 x1 x2 x3 x4 x5 x6 x7 x8 x9 A B C D E 0 0 0 0 0 0 0 0 0 0 0 0 0 0 0 0 0 0 0 0 false false (List.getD x5 (Int.toNat 0) []) [] [])).2.2.2.2.2.2.2.2.2.2.1, .bool (zb (Lad FU F x0 x1 x2 x3 x4 x5 x6 x7 x8 x9 A B C D E 0 0 0 0 0 0 0 0 0 0 0 0 0 0 0 0 0 0 0 0 false false (List.getD x5 (Int.toNat 0) []) [] [])).2.2.2.2.2.2.2.2.2.2.2.1, .bool (zb (Lad FU F x0 x1 x2 x3 x4 x5 x6 x7 x8 x9 A B C D E 0 0 0 0 0 0 0 0 0 0 0 0 0 0 0 0 0 0 0 0 false false (List.getD x5 (Int.toNat 0) []) [] [])).2.2.2.2.2.2.2.2.2.2.2.2.1], .sc (.bool (zb (Lad FU F x0 x1 x2 x3 x4 x5 x6 x7 x8 x9 A B C D E 0 0 0 0 0 0 0 0 0 0 0 0 0 0 0 0 0 0 0 0 false false (List.getD x5 (Int.toNat 0) []) [] [])).1), .sc (.d 30 PKy ((zb (Lad FU F x0 x1 x2 x3 x4 x5 x6 x7 x8 x9 A B C D E 0 0 0 0 0 0 0 0 0 0 0 0 0 0 0 0 0 0 0 0 false false (List.getD x5 (Int.toNat 0) []) [] [])).2.2.2.2.2.2.2.2.2.2.2.2.2 : List PKt)), .sc (I4 (zb (Lad FU F x0 x1 x2 x3 x4 x5 x6 x7 x8 x9 A B C D E 0 0 0 0 0 0 0 0 0 0 0 0 0 0 0 0 0 0 0 0 false false (List.getD x5 (Int.toNat 0) []) [] [])).2.1)], [])) (cond (ok (za (Lad FU F x0 x1 x2 x3 x4 x5 x6 x7 x8 x9 A B C D E 0 0 0 0 0 0 0 0 0 0 0 0 0 0 0 0 0 0 0 0 false false (List.getD x5 (Int.toNat 0) []) [] []))) (some ([.agg [I4 (x0), I4 (x1), I4 (x2), I4 (x3), I4 (x4), .d 51 (.list 55 QDy) ([(val (za (Lad FU F x0 x1 x2 x3 x4 x5 x6 x7 x8 x9 A B C D E 0 0 0 0 0 0 0 0 0 0 0 0 0 0 0 0 0 0 0 0 false false (List.getD x5 (Int.toNat 0) []) [] []))).2.2.1] : List (List (PKt × Int))), I4 (0), I4 (0), I4 (x8), I4 (x9), I4 (A), I4 (B), I4 (C), I4 (F), .int .u64 (E)], .agg [I4 (0), I4 (0), I4 (0), I4 (0), I4 (0), I4 (0), .bool (false), .bool (false)], .sc (.bool (false)), .sc (.d 30 PKy ((val (za (Lad FU F x0 x1 x2 x3 x4 x5 x6 x7 x8 x9 A B C D E 0 0 0 0 0 0 0 0 0 0 0 0 0 0 0 0 0 0 0 0 false false (List.getD x5 (Int.toNat 0) []) [] []))).2.2.2 : List PKt)), .sc (I4 (0))], [])) none)) none) none)) none)) (by kernel_rfl) ?_
 unfold v15
 refine zc ?_ ?_
 refine zc ?_ ?_
 rfl
 refine zc ?_ ?_
 refine zc ?_ ?_
 refine zc ?_ ?_
 rfl
 refine zc ?_ ?_
 rfl
 rfl
 rfl
 rfl
 rfl
noncomputable def sv15 : OrcS := fun al H => dC al fun y1 l2 => dA y1 fun y3 => dK y3 fun x0 l4 => dK l4 fun x1 l5 => dK l5 fun x2 l6 => dK l6 fun x3 l7 => dK l7 fun x4 l8 => dC l8 fun y9 l10 => dD 51 (.list 55 QDy) y9 fun x5 => dK l10 fun x6 l11 => dK l11 fun x7 l12 => dK l12 fun x8 l13 => dK l13 fun x9 l14 => dK l14 fun A l15 => dK l15 fun B l16 => dK l16 fun C l17 => dK l17 fun D l18 => dCI .u64 l18 fun E l19 => dE l19 <| dC l2 fun y20 l21 => dS y20 fun y22 => yX .i64 y22 fun F => dE l21 <| dE H <|  some [(ok (v15 x0 x1 x2 x3 x4 x5 x6 x7 x8 x9 A B C D E F), [.agg [I4 ((val (v15 x0 x1 x2 x3 x4 x5 x6 x7 x8 x9 A B C D E F)).1), I4 ((val (v15 x0 x1 x2 x3 x4 x5 x6 x7 x8 x9 A B C D E F)).2.1), I4 ((val (v15 x0 x1 x2 x3 x4 x5 x6 x7 x8 x9 A B C D E F)).2.2.1), I4 ((val (v15 x0 x1 x2 x3 x4 x5 x6 x7 x8 x9 A B C D E F)).2.2.2.1), I4 ((val (v15 x0 x1 x2 x3 x4 x5 x6 x7 x8 x9 A B C D E F)).2.2.2.2.1), .d 51 (.list 55 QDy) ((val (v15 x0 x1 x2 x3 x4 x5 x6 x7 x8 x9 A B C D E F)).2.2.2.2.2.1 : List (List (PKt × Int))), I4 ((val (v15 x0 x1 x2 x3 x4 x5 x6 x7 x8 x9 A B C D E F)).2.2.2.2.2.2.1), I4 ((val (v15 x0 x1 x2 x3 x4 x5 x6 x7 x8 x9 A B C D E F)).2.2.2.2.2.2.2.1), I4 ((val (v15 x0 x1 x2 x3 x4 x5 x6 x7 x8 x9 A B C D E F)).2.2.2.2.2.2.2.2.1), I4 ((val (v15 x0 x1 x2 x3 x4 x5 x6 x7 x8 x9 A B C D E F)).2.2.2.2.2.2.2.2.2.1), I4 ((val (v15 x0 x1 x2 x3 x4 x5 x6 x7 x8 x9 A B C D E F)).2.2.2.2.2.2.2.2.2.2.1), I4 ((val (v15 x0 x1 x2 x3 x4 x5 x6 x7 x8 x9 A B C D E F)).2.2.2.2.2.2.2.2.2.2.2.1), I4 ((val (v15 x0 x1 x2 x3 x4 x5 x6 x7 x8 x9 A B C D E F)).2.2.2.2.2.2.2.2.2.2.2.2.1), I4 ((val (v15 x0 x1 x2 x3 x4 x5 x6 x7 x8 x9 A B C D E F)).2.2.2.2.2.2.2.2.2.2.2.2.2.1), .int .u64 ((val (v15 x0 x1 x2 x3 x4 x5 x6 x7 x8 x9 A B C D E F)).2.2.2.2.2.2.2.2.2.2.2.2.2.2.1)], .agg [I4 ((val (v15 x0 x1 x2 x3 x4 x5 x6 x7 x8 x9 A B C D E F)).2.2.2.2.2.2.2.2.2.2.2.2.2.2.2.1), I4 ((val (v15 x0 x1 x2 x3 x4 x5 x6 x7 x8 x9 A B C D E F)).2.2.2.2.2.2.2.2.2.2.2.2.2.2.2.2.1), I4 ((val (v15 x0 x1 x2 x3 x4 x5 x6 x7 x8 x9 A B C D E F)).2.2.2.2.2.2.2.2.2.2.2.2.2.2.2.2.2.1), I4 ((val (v15 x0 x1 x2 x3 x4 x5 x6 x7 x8 x9 A B C D E F)).2.2.2.2.2.2.2.2.2.2.2.2.2.2.2.2.2.2.1), I4 ((val (v15 x0 x1 x2 x3 x4 x5 x6 x7 x8 x9 A B C D E F)).2.2.2.2.2.2.2.2.2.2.2.2.2.2.2.2.2.2.2.1), I4 ((val (v15 x0 x1 x2 x3 x4 x5 x6 x7 x8 x9 A B C D E F)).2.2.2.2.2.2.2.2.2.2.2.2.2.2.2.2.2.2.2.2.1), .bool ((val (v15 x0 x1 x2 x3 x4 x5 x6 x7 x8 x9 A B C D E F)).2.2.2.2.2.2.2.2.2.2.2.2.2.2.2.2.2.2.2.2.2.1), .bool ((val (v15 x0 x1 x2 x3 x4 x5 x6 x7 x8 x9 A B C D E F)).2.2.2.2.2.2.2.2.2.2.2.2.2.2.2.2.2.2.2.2.2.2.1)], .sc (.bool ((val (v15 x0 x1 x2 x3 x4 x5 x6 x7 x8 x9 A B C D E F)).2.2.2.2.2.2.2.2.2.2.2.2.2.2.2.2.2.2.2.2.2.2.2.1)), .sc (.d 30 PKy ((val (v15 x0 x1 x2 x3 x4 x5 x6 x7 x8 x9 A B C D E F)).2.2.2.2.2.2.2.2.2.2.2.2.2.2.2.2.2.2.2.2.2.2.2.2.1 : List PKt)), .sc (I4 ((val (v15 x0 x1 x2 x3 x4 x5 x6 x7 x8 x9 A B C D E F)).2.2.2.2.2.2.2.2.2.2.2.2.2.2.2.2.2.2.2.2.2.2.2.2.2))], [])]
theorem wv15 : zI Try.prog dOk base o46 t46 (15, sv15) := by
 intro al H q hq0 rs H2 h2
 have hq : sv15 al H = some q := hq0
 clear hq0
 unfold sv15 at hq
 obtain ⟨_, _, rfl, g1⟩ := dCq hq
 obtain ⟨_, rfl, g2⟩ := dAq g1
 obtain ⟨_, _, _, _, _, _, rfl, g3⟩ := dJ5 g2
 obtain ⟨_, _, rfl, g4⟩ := dCq g3
 obtain ⟨_, rfl, g5⟩ := dDq g4
 obtain ⟨_, _, _, _, _, _, _, _, _, _, rfl, g6⟩ := dJ9 g5
 obtain ⟨rfl, g7⟩ := dEq g6
 obtain ⟨_, _, rfl, g8⟩ := dCq g7
 obtain ⟨_, rfl, g9⟩ := dSq g8
 obtain ⟨_, rfl, g10⟩ := yS g9
 obtain ⟨rfl, g11⟩ := dEq g10
 obtain ⟨rfl, g12⟩ := dEq g11
 cases g12
 obtain ⟨hc0, rfl, rfl⟩ := zq h2
 exact ⟨41, (zW (by kernel_rfl)).trans ((ev15 _ _ _ _ _ _ _ _ _ _ _ _ _ _ _ _).trans (zE (zk hc0)))⟩
noncomputable def o47 : OrcT := (15, sv15) :: o46
noncomputable def t47 : TellT := t46
noncomputable abbrev tn47 : FuncId → TAn := zj base o47 t47
theorem ok47 : TnOk Try.prog tn47 (mkA base) dOk := by
 have h0 : TnOk Try.prog (tn46) (mkA base) dOk := ok46
 have h1 := zM h0 h0 (p := (15, sv15)) wv15
 exact h1
noncomputable def Lai : Nat → (List PKt) → (List PKt) → Int → Option (Bool ⊕ Unit)
 | 0, _, _, _ => none
 | n + 1, x0, x1, x2 => (cond (decide (x2 < (x0.length : Int))) (cond (decide (0 ≤ x2)) (cond (decide (x2 < (x1.length : Int))) (cond (!((List.getD x0 x2.toNat PKz).1 == (List.getD x1 x2.toNat PKz).1 && ((List.getD x0 x2.toNat PKz).2.1 == (List.getD x1 x2.toNat PKz).2.1 && ((List.getD x0 x2.toNat PKz).2.2.1 == (List.getD x1 x2.toNat PKz).2.2.1 && ((List.getD x0 x2.toNat PKz).2.2.2.1 == (List.getD x1 x2.toNat PKz).2.2.2.1 && ((List.getD x0 x2.toNat PKz).2.2.2.2.1 == (List.getD x1 x2.toNat PKz).2.2.2.2.1 && ((List.getD x0 x2.toNat PKz).2.2.2.2.2.1 == (List.getD x1 x2.toNat PKz).2.2.2.2.2.1 && ((List.getD x0 x2.toNat PKz).2.2.2.2.2.2.1 == (List.getD x1 x2.toNat PKz).2.2.2.2.2.2.1 && ((List.getD x0 x2.toNat PKz).2.2.2.2.2.2.2 == (List.getD x1 x2.toNat PKz).2.2.2.2.2.2.2 && true))))))))) (some (.inl (false))) (Lai n x0 x1 (IntKind.wrap IntKind.i64 (x2 + (1 : Int))))) none) none) (some (.inr ())))
theorem qLai : type_of% @Lai.eq_2 := @Lai.eq_2
noncomputable def xLai (x0 : (List PKt)) (x1 : (List PKt)) (x2 : Int) : (Bool ⊕ Unit) → Ex × CS := fun r => match r with | .inl a0 => (.ret, { sl := [(4, .v (.sc (.bool (a0))))], lo := [], h := [], n0 := 0, w := true }) | .inr b0 => ((.exit 0), { sl := [], lo := [], h := [], n0 := 0, w := false })
theorem bLai (k : Nat) (cN : CS → Option (Ex × CS)) (cX : Ex → CS → Option (Ex × CS)) (x0 : (List PKt)) (x1 : (List PKt)) (x2 : Int) : xl Try.prog (tn47 17) (TM.evF Try.prog (tn47) dOk (k + 40)) dOk (k + 40) (zh Try.prog (tn0 17) 17 0) 0 0 { sl := [(0, .v (.sc (.d 30 PKy x0))), (1, .v (.sc (.d 30 PKy x1))), (5, .v (.sc (I4 x2)))], lo := [], h := [], n0 := 0, w := false } cN cX = (cond (decide (x2 < (x0.length : Int))) (cond (decide (0 ≤ x2)) (cond (decide (x2 < (x0.length : Int))) (cond (decide (0 ≤ x2)) (cond (decide (x2 < (x1.length : Int))) (cond (!((List.getD x0 x2.toNat PKz).1 == (List.getD x1 x2.toNat PKz).1 && ((List.getD x0 x2.toNat PKz).2.1 == (List.getD x1 x2.toNat PKz).2.1 && ((List.getD x0 x2.toNat PKz).2.2.1 == (List.getD x1 x2.toNat PKz).2.2.1 && ((List.getD x0 x2.toNat PKz).2.2.2.1 == (List.getD x1 x2.toNat PKz).2.2.2.1 && ((List.getD x0 x2.toNat PKz).2.2.2.2.1 == (List.getD x1 x2.toNat PKz).2.2.2.2.1 && ((List.getD x0 x2.toNat PKz).2.2.2.2.2.1 == (List.getD x1 x2.toNat PKz).2.2.2.2.2.1 && ((List.getD x0 x2.toNat PKz).2.2.2.2.2.2.1 == (List.getD x1 x2.toNat PKz).2.2.2.2.2.2.1 && ((List.getD x0 x2.toNat PKz).2.2.2.2.2.2.2 == (List.getD x1 x2.toNat PKz).2.2.2.2.2.2.2 && true))))))))) (cX .ret { sl := [(4, .v (.sc (.bool (false))))], lo := [], h := [], n0 := 0, w := true }) (cN { sl := [(0, .v (.sc (.d 30 PKy x0))), (1, .v (.sc (.d 30 PKy x1))), (5, .v (.sc (I4 (IntKind.wrap IntKind.i64 (x2 + (1 : Int))))))], lo := [], h := [], n0 := 0, w := false })) none) none) none) none) (cX (.exit 0) { sl := [], lo := [], h := [], n0 := 0, w := false })) := by kernel_rfl
theorem lLai (k m : Nat) : ∀ (n : Nat) (x0 : (List PKt)) (x1 : (List PKt)) (x2 : Int) (r : (Bool ⊕ Unit)), Lai n x0 x1 x2 = some r → wi Try.prog (tn47 17) (TM.evF Try.prog (tn47) dOk (k + 40)) dOk (k + 40) (zh Try.prog (tn0 17) 17 0) 0 0 (n + m) { sl := [(0, .v (.sc (.d 30 PKy x0))), (1, .v (.sc (.d 30 PKy x1))), (5, .v (.sc (I4 x2)))], lo := [], h := [], n0 := 0, w := false } = some (xLai x0 x1 x2 r) := by
 intro n
 induction n with
 | zero => intro _ _ _ r h; cases h
 | succ n ih =>
  intro x0 x1 x2 r
  rw [show n + 1 + m = n + m + 1 by omega, xt, bLai, qLai]
  cases (decide (x2 < (x0.length : Int))) with
  | true =>
   cases (decide (0 ≤ x2)) with
   | true =>
    cases (decide (x2 < (x1.length : Int))) with
    | true =>
     cases (!((List.getD x0 x2.toNat PKz).1 == (List.getD x1 x2.toNat PKz).1 && ((List.getD x0 x2.toNat PKz).2.1 == (List.getD x1 x2.toNat PKz).2.1 && ((List.getD x0 x2.toNat PKz).2.2.1 == (List.getD x1 x2.toNat PKz).2.2.1 && ((List.getD x0 x2.toNat PKz).2.2.2.1 == (List.getD x1 x2.toNat PKz).2.2.2.1 && ((List.getD x0 x2.toNat PKz).2.2.2.2.1 == (List.getD x1 x2.toNat PKz).2.2.2.2.1 && ((List.getD x0 x2.toNat PKz).2.2.2.2.2.1 == (List.getD x1 x2.toNat PKz).2.2.2.2.2.1 && ((List.getD x0 x2.toNat PKz).2.2.2.2.2.2.1 == (List.getD x1 x2.toNat PKz).2.2.2.2.2.2.1 && ((List.getD x0 x2.toNat PKz).2.2.2.2.2.2.2 == (List.getD x1 x2.toNat PKz).2.2.2.2.2.2.2 && true))))))))) with
     | true =>
      intro h; cases h; rfl
     | false =>
      exact ih _ _ _ r
    | false =>
     intro h; cases h
   | false =>
    intro h; cases h
  | false =>
   intro h; cases h; rfl
noncomputable def sLai : TellS := fun S => dCS 0 S fun y1 y2 y3 => dSs 0 y1 fun y5 l4 => dD 30 PKy y5 fun x0 => dSs 1 l4 fun y7 l6 => dD 30 PKy y7 fun x1 => dSI 5 .i64 l6 fun x2 l8 => dE l8 <| dE y2 <| dE y3 <|  some [(isL (Lai FU x0 x1 x2), .ret, { sl := [(4, .v (.sc (.bool ((zb (Lai FU x0 x1 x2))))))], lo := [], h := [], n0 := 0, w := true }), (ok (za (Lai FU x0 x1 x2)), (.exit 0), { sl := [], lo := [], h := [], n0 := 0, w := false })]
theorem wLai : zG Try.prog dOk base o47 t47 ((17, 0), sLai) := by
 refine ⟨.loop (zh Try.prog (tn0 17) 17 0), 0, by kernel_rfl, ?_⟩
 intro S alts e S' h10 h2
 have h1 : sLai S = some alts := h10
 clear h10
 unfold sLai at h1
 obtain ⟨_, _, _, rfl, g1⟩ := yN h1
 obtain ⟨_, _, rfl, g2⟩ := yf g1
 obtain ⟨_, rfl, g3⟩ := dDq g2
 obtain ⟨_, _, rfl, g4⟩ := yf g3
 obtain ⟨_, rfl, g5⟩ := dDq g4
 obtain ⟨_, _, rfl, g6⟩ := xp g5
 obtain ⟨rfl, g7⟩ := dEq g6
 obtain ⟨rfl, g8⟩ := dEq g7
 obtain ⟨rfl, g9⟩ := dEq g8
 cases g9
 rcases yq h2 with ⟨hc0, rfl, rfl⟩ | h2
 · exact ⟨FU + 40, (zD rfl).trans (lLai FU 40 FU _ _ _ _ (yO hc0))⟩
 obtain ⟨hc1, rfl, rfl⟩ := zH h2
 exact ⟨FU + 40, (zD rfl).trans (lLai FU 40 FU _ _ _ _ (yp (zk hc1)))⟩
noncomputable def o48 : OrcT := o47
noncomputable def t48 : TellT := ((17, 0), sLai) :: t47
noncomputable abbrev tn48 : FuncId → TAn := zj base o48 t48
theorem ok48 : TnOk Try.prog tn48 (mkA base) dOk := by
 have h0 : TnOk Try.prog (tn47) (mkA base) dOk := ok47
 have h1 := zK h0 h0 (p := ((17, 0), sLai)) wLai
 exact h1
noncomputable def v17 (x0 : (List PKt)) (x1 : (List PKt)) : Option Bool := (cond ((x0.length : Int) != (x1.length : Int)) (some (false)) (cond (isL (Lai FU x0 x1 0)) (some (zb (Lai FU x0 x1 0))) (cond (ok (za (Lai FU x0 x1 0))) (some (true)) none)))
theorem ev17 (x0 : (List PKt)) (x1 : (List PKt)) : zJ Try.prog (tn48 17) (TM.evF Try.prog (tn48) dOk 40) dOk 40 17 [.sc (.d 30 PKy x0), .sc (.d 30 PKy x1)] [] = (v17 x0 x1).bind fun r => some ([.sc (.bool (r))], []) := by
 refine Eq.trans (b := (cond ((x0.length : Int) != (x1.length : Int)) (some ([.sc (.bool (false))], [])) (cond (isL (Lai FU x0 x1 0)) (some ([.sc (.bool (zb (Lai FU x0 x1 0)))], [])) (cond (ok (za (Lai FU x0 x1 0))) (some ([.sc (.bool (true))], [])) none)))) (by kernel_rfl) ?_
 unfold v17
 refine zc ?_ ?_
 rfl
 refine zc ?_ ?_
 rfl
 refine zc ?_ ?_
 rfl
 rfl
noncomputable def sv17 : OrcS := fun al H => dC al fun y1 l2 => dS y1 fun y3 => dD 30 PKy y3 fun x0 => dC l2 fun y4 l5 => dS y4 fun y6 => dD 30 PKy y6 fun x1 => dE l5 <| dE H <|  some [(ok (v17 x0 x1), [.sc (.bool ((val (v17 x0 x1))))], [])]
theorem wv17 : zI Try.prog dOk base o48 t48 (17, sv17) := by
 intro al H q hq0 rs H2 h2
 have hq : sv17 al H = some q := hq0
 clear hq0
 unfold sv17 at hq
 obtain ⟨_, _, rfl, g1⟩ := dCq hq
 obtain ⟨_, rfl, g2⟩ := dSq g1
 obtain ⟨_, rfl, g3⟩ := dDq g2
 obtain ⟨_, _, rfl, g4⟩ := dCq g3
 obtain ⟨_, rfl, g5⟩ := dSq g4
 obtain ⟨_, rfl, g6⟩ := dDq g5
 obtain ⟨rfl, g7⟩ := dEq g6
 obtain ⟨rfl, g8⟩ := dEq g7
 cases g8
 obtain ⟨hc0, rfl, rfl⟩ := zq h2
 exact ⟨41, (zW (by kernel_rfl)).trans ((ev17 _ _).trans (zE (zk hc0)))⟩
noncomputable def o49 : OrcT := (17, sv17) :: o48
noncomputable def t49 : TellT := t48
noncomputable abbrev tn49 : FuncId → TAn := zj base o49 t49
theorem ok49 : TnOk Try.prog tn49 (mkA base) dOk := by
 have h0 : TnOk Try.prog (tn48) (mkA base) dOk := ok48
 have h1 := zM h0 h0 (p := (17, sv17)) wv17
 exact h1
noncomputable def Lag : Nat → (List (PKt × Int)) → (List (PKt × Int)) → Int → Option (Bool ⊕ Unit)
 | 0, _, _, _ => none
 | n + 1, x0, x1, x2 => (cond (decide (x2 < (x0.length : Int))) (cond (decide (0 ≤ x2)) (cond (decide (x2 < (x1.length : Int))) (cond (!((List.getD x0 x2.toNat (PKz, (0 : Int))).1.1 == (List.getD x1 x2.toNat (PKz, (0 : Int))).1.1 && ((List.getD x0 x2.toNat (PKz, (0 : Int))).1.2.1 == (List.getD x1 x2.toNat (PKz, (0 : Int))).1.2.1 && ((List.getD x0 x2.toNat (PKz, (0 : Int))).1.2.2.1 == (List.getD x1 x2.toNat (PKz, (0 : Int))).1.2.2.1 && ((List.getD x0 x2.toNat (PKz, (0 : Int))).1.2.2.2.1 == (List.getD x1 x2.toNat (PKz, (0 : Int))).1.2.2.2.1 && ((List.getD x0 x2.toNat (PKz, (0 : Int))).1.2.2.2.2.1 == (List.getD x1 x2.toNat (PKz, (0 : Int))).1.2.2.2.2.1 && ((List.getD x0 x2.toNat (PKz, (0 : Int))).1.2.2.2.2.2.1 == (List.getD x1 x2.toNat (PKz, (0 : Int))).1.2.2.2.2.2.1 && ((List.getD x0 x2.toNat (PKz, (0 : Int))).1.2.2.2.2.2.2.1 == (List.getD x1 x2.toNat (PKz, (0 : Int))).1.2.2.2.2.2.2.1 && ((List.getD x0 x2.toNat (PKz, (0 : Int))).1.2.2.2.2.2.2.2 == (List.getD x1 x2.toNat (PKz, (0 : Int))).1.2.2.2.2.2.2.2 && true))))))) && ((List.getD x0 x2.toNat (PKz, (0 : Int))).2 == (List.getD x1 x2.toNat (PKz, (0 : Int))).2 && true))) (some (.inl (false))) (Lag n x0 x1 (IntKind.wrap IntKind.i64 (x2 + (1 : Int))))) none) none) (some (.inr ())))
theorem qLag : type_of% @Lag.eq_2 := @Lag.eq_2
noncomputable def xLag (x0 : (List (PKt × Int))) (x1 : (List (PKt × Int))) (x2 : Int) : (Bool ⊕ Unit) → Ex × CS := fun r => match r with | .inl a0 => (.ret, { sl := [(4, .v (.sc (.bool (a0))))], lo := [], h := [], n0 := 0, w := true }) | .inr b0 => ((.exit 0), { sl := [], lo := [], h := [], n0 := 0, w := false })
theorem bLag (k : Nat) (cN : CS → Option (Ex × CS)) (cX : Ex → CS → Option (Ex × CS)) (x0 : (List (PKt × Int))) (x1 : (List (PKt × Int))) (x2 : Int) : xl Try.prog (tn49 28) (TM.evF Try.prog (tn49) dOk (k + 40)) dOk (k + 40) (zh Try.prog (tn0 28) 28 0) 0 0 { sl := [(0, .v (.sc (.d 55 QDy x0))), (1, .v (.sc (.d 55 QDy x1))), (5, .v (.sc (I4 x2)))], lo := [], h := [], n0 := 0, w := false } cN cX = (cond (decide (x2 < (x0.length : Int))) (cond (decide (0 ≤ x2)) (cond (decide (x2 < (x0.length : Int))) (cond (decide (0 ≤ x2)) (cond (decide (x2 < (x1.length : Int))) (cond (!((List.getD x0 x2.toNat (PKz, (0 : Int))).1.1 == (List.getD x1 x2.toNat (PKz, (0 : Int))).1.1 && ((List.getD x0 x2.toNat (PKz, (0 : Int))).1.2.1 == (List.getD x1 x2.toNat (PKz, (0 : Int))).1.2.1 && ((List.getD x0 x2.toNat (PKz, (0 : Int))).1.2.2.1 == (List.getD x1 x2.toNat (PKz, (0 : Int))).1.2.2.1 && ((List.getD x0 x2.toNat (PKz, (0 : Int))).1.2.2.2.1 == (List.getD x1 x2.toNat (PKz, (0 : Int))).1.2.2.2.1 && ((List.getD x0 x2.toNat (PKz, (0 : Int))).1.2.2.2.2.1 == (List.getD x1 x2.toNat (PKz, (0 : Int))).1.2.2.2.2.1 && ((List.getD x0 x2.toNat (PKz, (0 : Int))).1.2.2.2.2.2.1 == (List.getD x1 x2.toNat (PKz, (0 : Int))).1.2.2.2.2.2.1 && ((List.getD x0 x2.toNat (PKz, (0 : Int))).1.2.2.2.2.2.2.1 == (List.getD x1 x2.toNat (PKz, (0 : Int))).1.2.2.2.2.2.2.1 && ((List.getD x0 x2.toNat (PKz, (0 : Int))).1.2.2.2.2.2.2.2 == (List.getD x1 x2.toNat (PKz, (0 : Int))).1.2.2.2.2.2.2.2 && true))))))) && ((List.getD x0 x2.toNat (PKz, (0 : Int))).2 == (List.getD x1 x2.toNat (PKz, (0 : Int))).2 && true))) (cX .ret { sl := [(4, .v (.sc (.bool (false))))], lo := [], h := [], n0 := 0, w := true }) (cN { sl := [(0, .v (.sc (.d 55 QDy x0))), (1, .v (.sc (.d 55 QDy x1))), (5, .v (.sc (I4 (IntKind.wrap IntKind.i64 (x2 + (1 : Int))))))], lo := [], h := [], n0 := 0, w := false })) none) none) none) none) (cX (.exit 0) { sl := [], lo := [], h := [], n0 := 0, w := false })) := by kernel_rfl
theorem lLag (k m : Nat) : ∀ (n : Nat) (x0 : (List (PKt × Int))) (x1 : (List (PKt × Int))) (x2 : Int) (r : (Bool ⊕ Unit)), Lag n x0 x1 x2 = some r → wi Try.prog (tn49 28) (TM.evF Try.prog (tn49) dOk (k + 40)) dOk (k + 40) (zh Try.prog (tn0 28) 28 0) 0 0 (n + m) { sl := [(0, .v (.sc (.d 55 QDy x0))), (1, .v (.sc (.d 55 QDy x1))), (5, .v (.sc (I4 x2)))], lo := [], h := [], n0 := 0, w := false } = some (xLag x0 x1 x2 r) := by
 intro n
 induction n with
 | zero => intro _ _ _ r h; cases h
 | succ n ih =>
  intro x0 x1 x2 r
  rw [show n + 1 + m = n + m + 1 by omega, xt, bLag, qLag]
  cases (decide (x2 < (x0.length : Int))) with
  | true =>
   cases (decide (0 ≤ x2)) with
   | true =>
    cases (decide (x2 < (x1.length : Int))) with
    | true =>
     cases (!((List.getD x0 x2.toNat (PKz, (0 : Int))).1.1 == (List.getD x1 x2.toNat (PKz, (0 : Int))).1.1 && ((List.getD x0 x2.toNat (PKz, (0 : Int))).1.2.1 == (List.getD x1 x2.toNat (PKz, (0 : Int))).1.2.1 && ((List.getD x0 x2.toNat (PKz, (0 : Int))).1.2.2.1 == (List.getD x1 x2.toNat (PKz, (0 : Int))).1.2.2.1 && ((List.getD x0 x2.toNat (PKz, (0 : Int))).1.2.2.2.1 == (List.getD x1 x2.toNat (PKz, (0 : Int))).1.2.2.2.1 && ((List.getD x0 x2.toNat (PKz, (0 : Int))).1.2.2.2.2.1 == (List.getD x1 x2.toNat (PKz, (0 : Int))).1.2.2.2.2.1 && ((List.getD x0 x2.toNat (PKz, (0 : Int))).1.2.2.2.2.2.1 == (List.getD x1 x2.toNat (PKz, (0 : Int))).1.2.2.2.2.2.1 && ((List.getD x0 x2.toNat (PKz, (0 : Int))).1.2.2.2.2.2.2.1 == (List.getD x1 x2.toNat (PKz, (0 : Int))).1.2.2.2.2.2.2.1 && ((List.getD x0 x2.toNat (PKz, (0 : Int))).1.2.2.2.2.2.2.2 == (List.getD x1 x2.toNat (PKz, (0 : Int))).1.2.2.2.2.2.2.2 && true))))))) && ((List.getD x0 x2.toNat (PKz, (0 : Int))).2 == (List.getD x1 x2.toNat (PKz, (0 : Int))).2 && true))) with
     | true =>
      intro h; cases h; rfl
     | false =>
      exact ih _ _ _ r
    | false =>
     intro h; cases h
   | false =>
    intro h; cases h
  | false =>
   intro h; cases h; rfl
noncomputable def sLag : TellS := fun S => dCS 0 S fun y1 y2 y3 => dSs 0 y1 fun y5 l4 => dD 55 QDy y5 fun x0 => dSs 1 l4 fun y7 l6 => dD 55 QDy y7 fun x1 => dSI 5 .i64 l6 fun x2 l8 => dE l8 <| dE y2 <| dE y3 <|  some [(isL (Lag FU x0 x1 x2), .ret, { sl := [(4, .v (.sc (.bool ((zb (Lag FU x0 x1 x2))))))], lo := [], h := [], n0 := 0, w := true }), (ok (za (Lag FU x0 x1 x2)), (.exit 0), { sl := [], lo := [], h := [], n0 := 0, w := false })]
theorem wLag : zG Try.prog dOk base o49 t49 ((28, 0), sLag) := by
 refine ⟨.loop (zh Try.prog (tn0 28) 28 0), 0, by kernel_rfl, ?_⟩
 intro S alts e S' h10 h2
 have h1 : sLag S = some alts := h10
 clear h10
 unfold sLag at h1
 obtain ⟨_, _, _, rfl, g1⟩ := yN h1
 obtain ⟨_, _, rfl, g2⟩ := yf g1
 obtain ⟨_, rfl, g3⟩ := dDq g2
 obtain ⟨_, _, rfl, g4⟩ := yf g3
 obtain ⟨_, rfl, g5⟩ := dDq g4
 obtain ⟨_, _, rfl, g6⟩ := xp g5
 obtain ⟨rfl, g7⟩ := dEq g6
 obtain ⟨rfl, g8⟩ := dEq g7
 obtain ⟨rfl, g9⟩ := dEq g8
 cases g9
 rcases yq h2 with ⟨hc0, rfl, rfl⟩ | h2
 · exact ⟨FU + 40, (zD rfl).trans (lLag FU 40 FU _ _ _ _ (yO hc0))⟩
 obtain ⟨hc1, rfl, rfl⟩ := zH h2
 exact ⟨FU + 40, (zD rfl).trans (lLag FU 40 FU _ _ _ _ (yp (zk hc1)))⟩
noncomputable def o50 : OrcT := o49
noncomputable def t50 : TellT := ((28, 0), sLag) :: t49
noncomputable abbrev tn50 : FuncId → TAn := zj base o50 t50
theorem ok50 : TnOk Try.prog tn50 (mkA base) dOk := by
 have h0 : TnOk Try.prog (tn49) (mkA base) dOk := ok49
 have h1 := zK h0 h0 (p := ((28, 0), sLag)) wLag
 exact h1
noncomputable def v28 (x0 : (List (PKt × Int))) (x1 : (List (PKt × Int))) : Option Bool := (cond ((x0.length : Int) != (x1.length : Int)) (some (false)) (cond (isL (Lag FU x0 x1 0)) (some (zb (Lag FU x0 x1 0))) (cond (ok (za (Lag FU x0 x1 0))) (some (true)) none)))
theorem ev28 (x0 : (List (PKt × Int))) (x1 : (List (PKt × Int))) : zJ Try.prog (tn50 28) (TM.evF Try.prog (tn50) dOk 40) dOk 40 28 [.sc (.d 55 QDy x0), .sc (.d 55 QDy x1)] [] = (v28 x0 x1).bind fun r => some ([.sc (.bool (r))], []) := by
 refine Eq.trans (b := (cond ((x0.length : Int) != (x1.length : Int)) (some ([.sc (.bool (false))], [])) (cond (isL (Lag FU x0 x1 0)) (some ([.sc (.bool (zb (Lag FU x0 x1 0)))], [])) (cond (ok (za (Lag FU x0 x1 0))) (some ([.sc (.bool (true))], [])) none)))) (by kernel_rfl) ?_
 unfold v28
 refine zc ?_ ?_
 rfl
 refine zc ?_ ?_
 rfl
 refine zc ?_ ?_
 rfl
 rfl
noncomputable def sv28 : OrcS := fun al H => dC al fun y1 l2 => dS y1 fun y3 => dD 55 QDy y3 fun x0 => dC l2 fun y4 l5 => dS y4 fun y6 => dD 55 QDy y6 fun x1 => dE l5 <| dE H <|  some [(ok (v28 x0 x1), [.sc (.bool ((val (v28 x0 x1))))], [])]
theorem wv28 : zI Try.prog dOk base o50 t50 (28, sv28) := by
 intro al H q hq0 rs H2 h2
 have hq : sv28 al H = some q := hq0
 clear hq0
 unfold sv28 at hq
 obtain ⟨_, _, rfl, g1⟩ := dCq hq
 obtain ⟨_, rfl, g2⟩ := dSq g1
 obtain ⟨_, rfl, g3⟩ := dDq g2
 obtain ⟨_, _, rfl, g4⟩ := dCq g3
 obtain ⟨_, rfl, g5⟩ := dSq g4
 obtain ⟨_, rfl, g6⟩ := dDq g5
 obtain ⟨rfl, g7⟩ := dEq g6
 obtain ⟨rfl, g8⟩ := dEq g7
 cases g8
 obtain ⟨hc0, rfl, rfl⟩ := zq h2
 exact ⟨41, (zW (by kernel_rfl)).trans ((ev28 _ _).trans (zE (zk hc0)))⟩
noncomputable def o51 : OrcT := (28, sv28) :: o50
noncomputable def t51 : TellT := t50
noncomputable abbrev tn51 : FuncId → TAn := zj base o51 t51
theorem ok51 : TnOk Try.prog tn51 (mkA base) dOk := by
 have h0 : TnOk Try.prog (tn50) (mkA base) dOk := ok50
 have h1 := zM h0 h0 (p := (28, sv28)) wv28
 exact h1
noncomputable def Lal : Nat → Int → Int → Int → Int → Int → Int → (List (List (PKt × Int))) → Int → Int → Int → Int → Int → Int → Int → Int → Int → Int → Int → Int → Int → Int → (List (List (PKt × Int))) → Int → Int → Int → Int → Int → Int → Int → Int → Int → Option (Bool ⊕ Unit)
 | 0, _, _, _, _, _, _, _, _, _, _, _, _, _, _, _, _, _, _, _, _, _, _, _, _, _, _, _, _, _, _, _ => none
 | n + 1, x0, x1, x2, x3, x4, x5, x6, x7, x8, x9, A, B, C, D, E, F, G, I, J, K, L, M, N, O, P, Q, R, T, U, V, W => (cond (decide (x0 < (x6.length : Int))) (cond (decide (0 ≤ x0)) (cond (decide (x0 < (M.length : Int))) (cond (ok (v28 (List.getD x6 x0.toNat []) (List.getD M x0.toNat []))) (cond (!val (v28 (List.getD x6 x0.toNat []) (List.getD M x0.toNat []))) (some (.inl (false))) (Lal n (IntKind.wrap IntKind.i64 (x0 + (1 : Int))) x1 x2 x3 x4 x5 x6 x7 x8 x9 A B C D E F G I J K L M N O P Q R T U V W)) none) none) none) (some (.inr ())))
theorem qLal : type_of% @Lal.eq_2 := @Lal.eq_2
noncomputable def xLal (x0 x1 x2 x3 x4 x5 : Int) (x6 : (List (List (PKt × Int)))) (x7 x8 x9 A B C D E F G I J K L : Int) (M : (List (List (PKt × Int)))) (N O P Q R T U V W : Int) : (Bool ⊕ Unit) → Ex × CS := fun r => match r with | .inl a0 => (.ret, { sl := [(4, .v (.sc (.bool (a0))))], lo := [], h := [], n0 := 0, w := true }) | .inr b0 => ((.exit 0), { sl := [(2, .l 2 0), (3, .l 3 0), (42, .l 2 5)], lo := [], h := [], n0 := 0, w := false })
theorem bLal (k : Nat) (cN : CS → Option (Ex × CS)) (cX : Ex → CS → Option (Ex × CS)) (x0 x1 x2 x3 x4 x5 : Int) (x6 : (List (List (PKt × Int)))) (x7 x8 x9 A B C D E F G I J K L : Int) (M : (List (List (PKt × Int)))) (N O P Q R T U V W : Int) : xl Try.prog (tn51 16) (TM.evF Try.prog (tn51) dOk (k + 40)) dOk (k + 40) (zh Try.prog (tn0 16) 16 0) 0 0 { sl := [(2, .l 2 0), (3, .l 3 0), (5, .v (.sc (I4 x0)))], lo := [(2, [I4 (x1), I4 (x2), I4 (x3), I4 (x4), I4 (x5), .d 51 (.list 55 QDy) (x6), I4 (x7), I4 (x8), I4 (x9), I4 (A), I4 (B), I4 (C), I4 (D), I4 (E), .int .u64 (F)]), (3, [I4 (G), I4 (I), I4 (J), I4 (K), I4 (L), .d 51 (.list 55 QDy) (M), I4 (N), I4 (O), I4 (P), I4 (Q), I4 (R), I4 (T), I4 (U), I4 (V), .int .u64 (W)])], h := [], n0 := 0, w := false } cN cX = (cond (decide (x0 < (x6.length : Int))) (cond (decide (0 ≤ x0)) (cond (decide (x0 < (x6.length : Int))) (cond (decide (0 ≤ x0)) (cond (decide (x0 < (M.length : Int))) (cond (ok (v28 (List.getD x6 x0.toNat []) (List.getD M x0.toNat []))) (cond (!val (v28 (List.getD x6 x0.toNat []) (List.getD M x0.toNat []))) (cX .ret { sl := [(4, .v (.sc (.bool (false))))], lo := [], h := [], n0 := 0, w := true }) (cN { sl := [(2, .l 2 0), (3, .l 3 0), (5, .v (.sc (I4 (IntKind.wrap IntKind.i64 (x0 + (1 : Int))))))], lo := [(2, [I4 (x1), I4 (x2), I4 (x3), I4 (x4), I4 (x5), .d 51 (.list 55 QDy) (x6), I4 (x7), I4 (x8), I4 (x9), I4 (A), I4 (B), I4 (C), I4 (D), I4 (E), .int .u64 (F)]), (3, [I4 (G), I4 (I), I4 (J), I4 (K), I4 (L), .d 51 (.list 55 QDy) (M), I4 (N), I4 (O), I4 (P), I4 (Q), I4 (R), I4 (T), I4 (U), I4 (V), .int .u64 (W)])], h := [], n0 := 0, w := false })) none) none) none) none) none) (cX (.exit 0) { sl := [(2, .l 2 0), (3, .l 3 0), (42, .l 2 5)], lo := [], h := [], n0 := 0, w := false })) := by kernel_rfl
theorem lLal (k m : Nat) : ∀ (n : Nat) (x0 x1 x2 x3 x4 x5 : Int) (x6 : (List (List (PKt × Int)))) (x7 x8 x9 A B C D E F G I J K L : Int) (M : (List (List (PKt × Int)))) (N O P Q R T U V W : Int) (r : (Bool ⊕ Unit)), Lal n x0 x1 x2 x3 x4 x5 x6 x7 x8 x9 A B C D E F G I J K L M N O P Q R T U V W = some r → wi Try.prog (tn51 16) (TM.evF Try.prog (tn51) dOk (k + 40)) dOk (k + 40) (zh Try.prog (tn0 16) 16 0) 0 0 (n + m) { sl := [(2, .l 2 0), (3, .l 3 0), (5, .v (.sc (I4 x0)))], lo := [(2, [I4 (x1), I4 (x2), I4 (x3), I4 (x4), I4 (x5), .d 51 (.list 55 QDy) (x6), I4 (x7), I4 (x8), I4 (x9), I4 (A), I4 (B), I4 (C), I4 (D), I4 (E), .int .u64 (F)]), (3, [I4 (G), I4 (I), I4 (J), I4 (K), I4 (L), .d 51 (.list 55 QDy) (M), I4 (N), I4 (O), I4 (P), I4 (Q), I4 (R), I4 (T), I4 (U), I4 (V), .int .u64 (W)])], h := [], n0 := 0, w := false } = some (xLal x0 x1 x2 x3 x4 x5 x6 x7 x8 x9 A B C D E F G I J K L M N O P Q R T U V W r) := by
 intro n
 induction n with
 | zero => intro _ _ _ _ _ _ _ _ _ _ _ _ _ _ _ _ _ _ _ _ _ _ _ _ _ _ _ _ _ _ _ r h; cases h
 | succ n ih =>
  intro x0 x1 x2 x3 x4 x5 x6 x7 x8 x9 A B C D E F G I J K L M N O P Q R T U V W r
  rw [show n + 1 + m = n + m + 1 by omega, xt, bLal, qLal]
  cases (decide (x0 < (x6.length : Int))) with
  | true =>
   cases (decide (0 ≤ x0)) with
   | true =>
    cases (decide (x0 < (M.length : Int))) with
    | true =>
     cases (ok (v28 (List.getD x6 x0.toNat []) (List.getD M x0.toNat []))) with
     | true =>
      cases (!val (v28 (List.getD x6 x0.toNat []) (List.getD M x0.toNat []))) with
      | true =>
       intro h; cases h; rfl
      | false =>
       exact ih _ _ _ _ _ _ _ _ _ _ _ _ _ _ _ _ _ _ _ _ _ _ _ _ _ _ _ _ _ _ _ r
     | false =>
      intro h; cases h
    | false =>
     intro h; cases h
   | false =>
    intro h; cases h
  | false =>
   intro h; cases h; rfl
noncomputable def sLal : TellS := fun S => dCS 0 S fun y1 y2 y3 => dSt 2 y1 fun y5 l4 => dL 2 0 y5 <| dSt 3 l4 fun y7 l6 => dL 3 0 y7 <| dSI 5 .i64 l6 fun x0 l8 => dE l8 <| dLo 2 y2 fun y9 l10 => dK y9 fun x1 l11 => dK l11 fun x2 l12 => dK l12 fun x3 l13 => dK l13 fun x4 l14 => dK l14 fun x5 l15 => dC l15 fun y16 l17 => dD 51 (.list 55 QDy) y16 fun x6 => dK l17 fun x7 l18 => dK l18 fun x8 l19 => dK l19 fun x9 l20 => dK l20 fun A l21 => dK l21 fun B l22 => dK l22 fun C l23 => dK l23 fun D l24 => dK l24 fun E l25 => dCI .u64 l25 fun F l26 => dE l26 <| dLo 3 l10 fun y27 l28 => dK y27 fun G l29 => dK l29 fun I l30 => dK l30 fun J l31 => dK l31 fun K l32 => dK l32 fun L l33 => dC l33 fun y34 l35 => dD 51 (.list 55 QDy) y34 fun M => dK l35 fun N l36 => dK l36 fun O l37 => dK l37 fun P l38 => dK l38 fun Q l39 => dK l39 fun R l40 => dK l40 fun T l41 => dK l41 fun U l42 => dK l42 fun V l43 => dCI .u64 l43 fun W l44 => dE l44 <| dE l28 <| dE y3 <|  some [(isL (Lal FU x0 x1 x2 x3 x4 x5 x6 x7 x8 x9 A B C D E F G I J K L M N O P Q R T U V W), .ret, { sl := [(4, .v (.sc (.bool ((zb (Lal FU x0 x1 x2 x3 x4 x5 x6 x7 x8 x9 A B C D E F G I J K L M N O P Q R T U V W))))))], lo := [], h := [], n0 := 0, w := true }), (ok (za (Lal FU x0 x1 x2 x3 x4 x5 x6 x7 x8 x9 A B C D E F G I J K L M N O P Q R T U V W)), (.exit 0), { sl := [(2, .l 2 0), (3, .l 3 0), (42, .l 2 5)], lo := [], h := [], n0 := 0, w := false })]
theorem wLal : zG Try.prog dOk base o51 t51 ((16, 0), sLal) := by
 refine ⟨.loop (zh Try.prog (tn0 16) 16 0), 0, by kernel_rfl, ?_⟩
 intro S alts e S' h10 h2
 have h1 : sLal S = some alts := h10
 clear h10
 unfold sLal at h1
 replace h1 := yN h1; obtain ⟨_, _, _, rfl, h1⟩ := h1
 replace h1 := zd h1; obtain ⟨_, _, rfl, h1⟩ := h1
 replace h1 := dLq h1; obtain ⟨rfl, h1⟩ := h1
 replace h1 := zd h1; obtain ⟨_, _, rfl, h1⟩ := h1
 replace h1 := dLq h1; obtain ⟨rfl, h1⟩ := h1
 replace h1 := xp h1; obtain ⟨_, _, rfl, h1⟩ := h1
 replace h1 := dEq h1; obtain ⟨rfl, h1⟩ := h1
 replace h1 := zQ h1; obtain ⟨_, _, rfl, h1⟩ := h1
 replace h1 := dJ5 h1; obtain ⟨_, _, _, _, _, _, rfl, h1⟩ := h1
 replace h1 := dCq h1; obtain ⟨_, _, rfl, h1⟩ := h1
 replace h1 := dDq h1; obtain ⟨_, rfl, h1⟩ := h1
 replace h1 := dJ9 h1; obtain ⟨_, _, _, _, _, _, _, _, _, _, rfl, h1⟩ := h1
 replace h1 := dEq h1; obtain ⟨rfl, h1⟩ := h1
 replace h1 := zQ h1; obtain ⟨_, _, rfl, h1⟩ := h1
 replace h1 := dJ5 h1; obtain ⟨_, _, _, _, _, _, rfl, h1⟩ := h1
 replace h1 := dCq h1; obtain ⟨_, _, rfl, h1⟩ := h1
 replace h1 := dDq h1; obtain ⟨_, rfl, h1⟩ := h1
 replace h1 := dJ9 h1; obtain ⟨_, _, _, _, _, _, _, _, _, _, rfl, h1⟩ := h1
 replace h1 := dEq h1; obtain ⟨rfl, h1⟩ := h1
 replace h1 := dEq h1; obtain ⟨rfl, h1⟩ := h1
 replace h1 := dEq h1; obtain ⟨rfl, h1⟩ := h1
 cases h1
 rcases yq h2 with ⟨hc0, rfl, rfl⟩ | h2
 · exact ⟨FU + 40, (zD rfl).trans (lLal FU 40 FU _ _ _ _ _ _ _ _ _ _ _ _ _ _ _ _ _ _ _ _ _ _ _ _ _ _ _ _ _ _ _ _ (yO hc0))⟩
 obtain ⟨hc1, rfl, rfl⟩ := zH h2
 exact ⟨FU + 40, (zD rfl).trans (lLal FU 40 FU _ _ _ _ _ _ _ _ _ _ _ _ _ _ _ _ _ _ _ _ _ _ _ _ _ _ _ _ _ _ _ _ (yp (zk hc1)))⟩
noncomputable def o52 : OrcT := o51
noncomputable def t52 : TellT := ((16, 0), sLal) :: t51
noncomputable abbrev tn52 : FuncId → TAn := zj base o52 t52
theorem ok52 : TnOk Try.prog tn52 (mkA base) dOk := by
 have h0 : TnOk Try.prog (tn51) (mkA base) dOk := ok51
 have h1 := zK h0 h0 (p := ((16, 0), sLal)) wLal
 exact h1
noncomputable def v16 (x0 x1 x2 x3 x4 : Int) (x5 : (List (List (PKt × Int)))) (x6 x7 x8 x9 A B C D E F G I J K : Int) (L : (List (List (PKt × Int)))) (M N O P Q R T U V : Int) : Option Bool := (cond (!(x0 == F && (x1 == G && (x2 == I && (x3 == J && true))))) (some (false)) (cond (x4 != K) (some (false)) (cond (!(x6 == M && (x7 == N && (x8 == O && (x9 == P && (A == Q && (B == R && (C == T && (D == U && true))))))))) (some (false)) (cond (E != V) (some (false)) (cond ((x5.length : Int) != (L.length : Int)) (some (false)) (cond (isL (Lal FU 0 x0 x1 x2 x3 x4 x5 x6 x7 x8 x9 A B C D E F G I J K L M N O P Q R T U V)) (some (zb (Lal FU 0 x0 x1 x2 x3 x4 x5 x6 x7 x8 x9 A B C D E F G I J K L M N O P Q R T U V))) (cond (ok (za (Lal FU 0 x0 x1 x2 x3 x4 x5 x6 x7 x8 x9 A B C D E F G I J K L M N O P Q R T U V))) (some (true)) none)))))))
theorem ev16 (x0 x1 x2 x3 x4 : Int) (x5 : (List (List (PKt × Int)))) (x6 x7 x8 x9 A B C D E F G I J K : Int) (L : (List (List (PKt × Int)))) (M N O P Q R T U V : Int) : zJ Try.prog (tn52 16) (TM.evF Try.prog (tn52) dOk 40) dOk 40 16 [.agg [I4 (x0), I4 (x1), I4 (x2), I4 (x3), I4 (x4), .d 51 (.list 55 QDy) (x5), I4 (x6), I4 (x7), I4 (x8), I4 (x9), I4 (A), I4 (B), I4 (C), I4 (D), .int .u64 (E)], .agg [I4 (F), I4 (G), I4 (I), I4 (J), I4 (K), .d 51 (.list 55 QDy) (L), I4 (M), I4 (N), I4 (O), I4 (P), I4 (Q), I4 (R), I4 (T), I4 (U), .int .u64 (V)]] [] = (v16 x0 x1 x2 x3 x4 x5 x6 x7 x8 x9 A B C D E F G I J K L M N O P Q R T U V).bind fun r => some ([.sc (.bool (r))], []) := by
 refine Eq.trans (b := (cond (!(x0 == F && (x1 == G && (x2 == I && (x3 == J && true))))) (some ([.sc (.bool (false))], [])) (cond (x4 != K) (some ([.sc (.bool (false))], [])) (cond (!(x6 == M && (x7 == N && (x8 == O && (x9 == P && (A == Q && (B == R && (C == T && (D == U && true))))))))) (some ([.sc (.bool (false))], [])) (cond (E != V) (some ([.sc (.bool (false))], [])) (cond ((x5.length : Int) != (L.length : Int)) (some ([.sc (.bool (false))], [])) (cond (isL (Lal FU 0 x0 x1 x2 x3 x4 x5 x6 x7 x8 x9 A B C D E F G I J K L M N O P Q R T U V)) (some ([.sc (.bool (zb (Lal FU 0 x0 x1 x2 x3 x4 x5 x6 x7 x8 x9 A B C D E F G I J K L M N O P Q R T U V)))], [])) (cond (ok (za (Lal FU 0 x0 x1 x2 x3 x4 x5 x6 x7 x8 x9 A B C D E F G I J K L M N O P Q R T U V))) (some ([.sc (.bool (true))], [])) none)))))))) (by kernel_rfl) ?_
 unfold v16
 refine zc ?_ ?_
 rfl
 refine zc ?_ ?_
 rfl
 refine zc ?_ ?_
 rfl
 refine zc ?_ ?_
 rfl
 refine zc ?_ ?_
 rfl
 refine zc ?_ ?_
 rfl
 refine zc ?_ ?_
 rfl
 rfl
noncomputable def sv16 : OrcS := fun al H => dC al fun y1 l2 => dA y1 fun y3 => dK y3 fun x0 l4 => dK l4 fun x1 l5 => dK l5 fun x2 l6 => dK l6 fun x3 l7 => dK l7 fun x4 l8 => dC l8 fun y9 l10 => dD 51 (.list 55 QDy) y9 fun x5 => dK l10 fun x6 l11 => dK l11 fun x7 l12 => dK l12 fun x8 l13 => dK l13 fun x9 l14 => dK l14 fun A l15 => dK l15 fun B l16 => dK l16 fun C l17 => dK l17 fun D l18 => dCI .u64 l18 fun E l19 => dE l19 <| dC l2 fun y20 l21 => dA y20 fun y22 => dK y22 fun F l23 => dK l23 fun G l24 => dK l24 fun I l25 => dK l25 fun J l26 => dK l26 fun K l27 => dC l27 fun y28 l29 => dD 51 (.list 55 QDy) y28 fun L => dK l29 fun M l30 => dK l30 fun N l31 => dK l31 fun O l32 => dK l32 fun P l33 => dK l33 fun Q l34 => dK l34 fun R l35 => dK l35 fun T l36 => dK l36 fun U l37 => dCI .u64 l37 fun V l38 => dE l38 <| dE l21 <| dE H <|  some [(ok (v16 x0 x1 x2 x3 x4 x5 x6 x7 x8 x9 A B C D E F G I J K L M N O P Q R T U V), [.sc (.bool ((val (v16 x0 x1 x2 x3 x4 x5 x6 x7 x8 x9 A B C D E F G I J K L M N O P Q R T U V))))], [])]
theorem wv16 : zI Try.prog dOk base o52 t52 (16, sv16) := by
 intro al H q hq0 rs H2 h2
 have hq : sv16 al H = some q := hq0
 clear hq0
 unfold sv16 at hq
 replace hq := dCq hq; obtain ⟨_, _, rfl, hq⟩ := hq
 replace hq := dAq hq; obtain ⟨_, rfl, hq⟩ := hq
 replace hq := dJ5 hq; obtain ⟨_, _, _, _, _, _, rfl, hq⟩ := hq
 replace hq := dCq hq; obtain ⟨_, _, rfl, hq⟩ := hq
 replace hq := dDq hq; obtain ⟨_, rfl, hq⟩ := hq
 replace hq := dJ9 hq; obtain ⟨_, _, _, _, _, _, _, _, _, _, rfl, hq⟩ := hq
 replace hq := dEq hq; obtain ⟨rfl, hq⟩ := hq
 replace hq := dCq hq; obtain ⟨_, _, rfl, hq⟩ := hq
 replace hq := dAq hq; obtain ⟨_, rfl, hq⟩ := hq
 replace hq := dJ5 hq; obtain ⟨_, _, _, _, _, _, rfl, hq⟩ := hq
 replace hq := dCq hq; obtain ⟨_, _, rfl, hq⟩ := hq
 replace hq := dDq hq; obtain ⟨_, rfl, hq⟩ := hq
 replace hq := dJ9 hq; obtain ⟨_, _, _, _, _, _, _, _, _, _, rfl, hq⟩ := hq
 replace hq := dEq hq; obtain ⟨rfl, hq⟩ := hq
 replace hq := dEq hq; obtain ⟨rfl, hq⟩ := hq
 replace hq := dEq hq; obtain ⟨rfl, hq⟩ := hq
 cases hq
 obtain ⟨hc0, rfl, rfl⟩ := zq h2
 exact ⟨41, (zW (by kernel_rfl)).trans ((ev16 _ _ _ _ _ _ _ _ _ _ _ _ _ _ _ _ _ _ _ _ _ _ _ _ _ _ _ _ _ _).trans (zE (zk hc0)))⟩
noncomputable def o53 : OrcT := (16, sv16) :: o52
noncomputable def t53 : TellT := t52
noncomputable abbrev tn53 : FuncId → TAn := zj base o53 t53
theorem ok53 : TnOk Try.prog tn53 (mkA base) dOk := by
 have h0 : TnOk Try.prog (tn52) (mkA base) dOk := ok52
 have h1 := zM h0 h0 (p := (16, sv16)) wv16
 exact h1
noncomputable def Lat (x0 : Int) (x1 : Bool) (x2 x3 x4 x5 x6 : Int) (x7 : (List (List (PKt × Int)))) (x8 x9 A B C D E F G I J K L M N : Int) (O : Bool) (P : Bool) : Option Bool := (cond (ok (v12 x2 x3 x4 x5 x6 x7 x8 x9 A B C D E F G I J K L M N O P x0)) (cond (ok (v13 x2 x3 x4 x5 x6 x7 x8 x9 A B C D E F G I J K L M N O P x0)) (cond (ok (v14 x2 x3 x4 x5 x6 x7 x8 x9 A B C D E F G x0)) (cond (ok (v15 x2 x3 x4 x5 x6 x7 x8 x9 A B C D E F G x0)) (cond x1 (cond (ok (v16 (val (v12 x2 x3 x4 x5 x6 x7 x8 x9 A B C D E F G I J K L M N O P x0)).1 (val (v12 x2 x3 x4 x5 x6 x7 x8 x9 A B C D E F G I J K L M N O P x0)).2.1 (val (v12 x2 x3 x4 x5 x6 x7 x8 x9 A B C D E F G I J K L M N O P x0)).2.2.1 (val (v12 x2 x3 x4 x5 x6 x7 x8 x9 A B C D E F G I J K L M N O P x0)).2.2.2.1 (val (v12 x2 x3 x4 x5 x6 x7 x8 x9 A B C D E F G I J K L M N O P x0)).2.2.2.2.1 (val (v12 x2 x3 x4 x5 x6 x7 x8 x9 A B C D E F G I J K L M N O P x0)).2.2.2.2.2.1 (val (v12 x2 x3 x4 x5 x6 x7 x8 x9 A B C D E F G I J K L M N O P x0)).2.2.2.2.2.2.1 (val (v12 x2 x3 x4 x5 x6 x7 x8 x9 A B C D E F G I J K L M N O P x0)).2.2.2.2.2.2.2.1 (val (v12 x2 x3 x4 x5 x6 x7 x8 x9 A B C D E F G I J K L M N O P x0)).2.2.2.2.2.2.2.2.1 (val (v12 x2 x3 x4 x5 x6 x7 x8 x9 A B C D E F G I J K L M N O P x0)).2.2.2.2.2.2.2.2.2.1 (val (v12 x2 x3 x4 x5 x6 x7 x8 x9 A B C D E F G I J K L M N O P x0)).2.2.2.2.2.2.2.2.2.2.1 (val (v12 x2 x3 x4 x5 x6 x7 x8 x9 A B C D E F G I J K L M N O P x0)).2.2.2.2.2.2.2.2.2.2.2.1 (val (v12 x2 x3 x4 x5 x6 x7 x8 x9 A B C D E F G I J K L M N O P x0)).2.2.2.2.2.2.2.2.2.2.2.2.1 (val (v12 x2 x3 x4 x5 x6 x7 x8 x9 A B C D E F G I J K L M N O P x0)).2.2.2.2.2.2.2.2.2.2.2.2.2.1 (val (v12 x2 x3 x4 x5 x6 x7 x8 x9 A B C D E F G I J K L M N O P x0)).2.2.2.2.2.2.2.2.2.2.2.2.2.2.1 (val (v13 x2 x3 x4 x5 x6 x7 x8 x9 A B C D E F G I J K L M N O P x0)).1 (val (v13 x2 x3 x4 x5 x6 x7 x8 x9 A B C D E F G I J K L M N O P x0)).2.1 (val (v13 x2 x3 x4 x5 x6 x7 x8 x9 A B C D E F G I J K L M N O P x0)).2.2.1 (val (v13 x2 x3 x4 x5 x6 x7 x8 x9 A B C D E F G I J K L M N O P x0)).2.2.2.1 (val (v13 x2 x3 x4 x5 x6 x7 x8 x9 A B C D E F G I J K L M N O P x0)).2.2.2.2.1 (val (v13 x2 x3 x4 x5 x6 x7 x8 x9 A B C D E F G I J K L M N O P x0)).2.2.2.2.2.1 (val (v13 x2 x3 x4 x5 x6 x7 x8 x9 A B C D E F G I J K L M N O P x0)).2.2.2.2.2.2.1 (val (v13 x2 x3 x4 x5 x6 x7 x8 x9 A B C D E F G I J K L M N O P x0)).2.2.2.2.2.2.2.1 (val (v13 x2 x3 x4 x5 x6 x7 x8 x9 A B C D E F G I J K L M N O P x0)).2.2.2.2.2.2.2.2.1 (val (v13 x2 x3 x4 x5 x6 x7 x8 x9 A B C D E F G I J K L M N O P x0)).2.2.2.2.2.2.2.2.2.1 (val (v13 x2 x3 x4 x5 x6 x7 x8 x9 A B C D E F G I J K L M N O P x0)).2.2.2.2.2.2.2.2.2.2.1 (val (v13 x2 x3 x4 x5 x6 x7 x8 x9 A B C D E F G I J K L M N O P x0)).2.2.2.2.2.2.2.2.2.2.2.1 (val (v13 x2 x3 x4 x5 x6 x7 x8 x9 A B C D E F G I J K L M N O P x0)).2.2.2.2.2.2.2.2.2.2.2.2.1 (val (v13 x2 x3 x4 x5 x6 x7 x8 x9 A B C D E F G I J K L M N O P x0)).2.2.2.2.2.2.2.2.2.2.2.2.2.1 (val (v13 x2 x3 x4 x5 x6 x7 x8 x9 A B C D E F G I J K L M N O P x0)).2.2.2.2.2.2.2.2.2.2.2.2.2.2.1)) (cond (val (v16 (val (v12 x2 x3 x4 x5 x6 x7 x8 x9 A B C D E F G I J K L M N O P x0)).1 (val (v12 x2 x3 x4 x5 x6 x7 x8 x9 A B C D E F G I J K L M N O P x0)).2.1 (val (v12 x2 x3 x4 x5 x6 x7 x8 x9 A B C D E F G I J K L M N O P x0)).2.2.1 (val (v12 x2 x3 x4 x5 x6 x7 x8 x9 A B C D E F G I J K L M N O P x0)).2.2.2.1 (val (v12 x2 x3 x4 x5 x6 x7 x8 x9 A B C D E F G I J K L M N O P x0)).2.2.2.2.1 (val (v12 x2 x3 x4 x5 x6 x7 x8 x9 A B C D E F G I J K L M N O P x0)).2.2.2.2.2.1 (val (v12 x2 x3 x4 x5 x6 x7 x8 x9 A B C D E F G I J K L M N O P x0)).2.2.2.2.2.2.1 (val (v12 x2 x3 x4 x5 x6 x7 x8 x9 A B C D E F G I J K L M N O P x0)).2.2.2.2.2.2.2.1 (val (v12 x2 x3 x4 x5 x6 x7 x8 x9 A B C D E F G I J K L M N O P x0)).2.2.2.2.2.2.2.2.1 (val (v12 x2 x3 x4 x5 x6 x7 x8 x9 A B C D E F G I J K L M N O P x0)).2.2.2.2.2.2.2.2.2.1 (val (v12 x2 x3 x4 x5 x6 x7 x8 x9 A B C D E F G I J K L M N O P x0)).2.2.2.2.2.2.2.2.2.2.1 (val (v12 x2 x3 x4 x5 x6 x7 x8 x9 A B C D E F G I J K L M N O P x0)).2.2.2.2.2.2.2.2.2.2.2.1 (val (v12 x2 x3 x4 x5 x6 x7 x8 x9 A B C D E F G I J K L M N O P x0)).2.2.2.2.2.2.2.2.2.2.2.2.1 (val (v12 x2 x3 x4 x5 x6 x7 x8 x9 A B C D E F G I J K L M N O P x0)).2.2.2.2.2.2.2.2.2.2.2.2.2.1 (val (v12 x2 x3 x4 x5 x6 x7 x8 x9 A B C D E F G I J K L M N O P x0)).2.2.2.2.2.2.2.2.2.2.2.2.2.2.1 (val (v13 x2 x3 x4 x5 x6 x7 x8 x9 A B C D E F G I J K L M N O P x0)).1 (val (v13 x2 x3 x4 x5 x6 x7 x8 x9 A B C D E F G I J K L M N O P x0)).2.1 (val (v13 x2 x3 x4 x5 x6 x7 x8 x9 A B C D E F G I J K L M N O P x0)).2.2.1 (val (v13 x2 x3 x4 x5 x6 x7 x8 x9 A B C D E F G I J K L M N O P x0)).2.2.2.1 (val (v13 x2 x3 x4 x5 x6 x7 x8 x9 A B C D E F G I J K L M N O P x0)).2.2.2.2.1 (val (v13 x2 x3 x4 x5 x6 x7 x8 x9 A B C D E F G I J K L M N O P x0)).2.2.2.2.2.1 (val (v13 x2 x3 x4 x5 x6 x7 x8 x9 A B C D E F G I J K L M N O P x0)).2.2.2.2.2.2.1 (val (v13 x2 x3 x4 x5 x6 x7 x8 x9 A B C D E F G I J K L M N O P x0)).2.2.2.2.2.2.2.1 (val (v13 x2 x3 x4 x5 x6 x7 x8 x9 A B C D E F G I J K L M N O P x0)).2.2.2.2.2.2.2.2.1 (val (v13 x2 x3 x4 x5 x6 x7 x8 x9 A B C D E F G I J K L M N O P x0)).2.2.2.2.2.2.2.2.2.1 (val (v13 x2 x3 x4 x5 x6 x7 x8 x9 A B C D E F G I J K L M N O P x0)).2.2.2.2.2.2.2.2.2.2.1 (val (v13 x2 x3 x4 x5 x6 x7 x8 x9 A B C D E F G I J K L M N O P x0)).2.2.2.2.2.2.2.2.2.2.2.1 (val (v13 x2 x3 x4 x5 x6 x7 x8 x9 A B C D E F G I J K L M N O P x0)).2.2.2.2.2.2.2.2.2.2.2.2.1 (val (v13 x2 x3 x4 x5 x6 x7 x8 x9 A B C D E F G I J K L M N O P x0)).2.2.2.2.2.2.2.2.2.2.2.2.2.1 (val (v13 x2 x3 x4 x5 x6 x7 x8 x9 A B C D E F G I J K L M N O P x0)).2.2.2.2.2.2.2.2.2.2.2.2.2.2.1)) (cond (ok (v17 (val (v12 x2 x3 x4 x5 x6 x7 x8 x9 A B C D E F G I J K L M N O P x0)).2.2.2.2.2.2.2.2.2.2.2.2.2.2.2.1 (val (v13 x2 x3 x4 x5 x6 x7 x8 x9 A B C D E F G I J K L M N O P x0)).2.2.2.2.2.2.2.2.2.2.2.2.2.2.2.1)) (cond (val (v17 (val (v12 x2 x3 x4 x5 x6 x7 x8 x9 A B C D E F G I J K L M N O P x0)).2.2.2.2.2.2.2.2.2.2.2.2.2.2.2.1 (val (v13 x2 x3 x4 x5 x6 x7 x8 x9 A B C D E F G I J K L M N O P x0)).2.2.2.2.2.2.2.2.2.2.2.2.2.2.2.1)) (cond ((val (v12 x2 x3 x4 x5 x6 x7 x8 x9 A B C D E F G I J K L M N O P x0)).2.2.2.2.2.2.2.2.2.2.2.2.2.2.2.2 == (val (v13 x2 x3 x4 x5 x6 x7 x8 x9 A B C D E F G I J K L M N O P x0)).2.2.2.2.2.2.2.2.2.2.2.2.2.2.2.2) (cond (ok (v16 (val (v14 x2 x3 x4 x5 x6 x7 x8 x9 A B C D E F G x0)).1 (val (v14 x2 x3 x4 x5 x6 x7 x8 x9 A B C D E F G x0)).2.1 (val (v14 x2 x3 x4 x5 x6 x7 x8 x9 A B C D E F G x0)).2.2.1 (val (v14 x2 x3 x4 x5 x6 x7 x8 x9 A B C D E F G x0)).2.2.2.1 (val (v14 x2 x3 x4 x5 x6 x7 x8 x9 A B C D E F G x0)).2.2.2.2.1 (val (v14 x2 x3 x4 x5 x6 x7 x8 x9 A B C D E F G x0)).2.2.2.2.2.1 (val (v14 x2 x3 x4 x5 x6 x7 x8 x9 A B C D E F G x0)).2.2.2.2.2.2.1 (val (v14 x2 x3 x4 x5 x6 x7 x8 x9 A B C D E F G x0)).2.2.2.2.2.2.2.1 (val (v14 x2 x3 x4 x5 x6 x7 x8 x9 A B C D E F G x0)).2.2.2.2.2.2.2.2.1 (val (v14 x2 x3 x4 x5 x6 x7 x8 x9 A B C D E F G x0)).2.2.2.2.2.2.2.2.2.1 (val (v14 x2 x3 x4 x5 x6 x7 x8 x9 A B C D E F G x0)).2.2.2.2.2.2.2.2.2.2.1 (val (v14 x2 x3 x4 x5 x6 x7 x8 x9 A B C D E F G x0)).2.2.2.2.2.2.2.2.2.2.2.1 (val (v14 x2 x3 x4 x5 x6 x7 x8 x9 A B C D E F G x0)).2.2.2.2.2.2.2.2.2.2.2.2.1 (val (v14 x2 x3 x4 x5 x6 x7 x8 x9 A B C D E F G x0)).2.2.2.2.2.2.2.2.2.2.2.2.2.1 (val (v14 x2 x3 x4 x5 x6 x7 x8 x9 A B C D E F G x0)).2.2.2.2.2.2.2.2.2.2.2.2.2.2.1 (val (v15 x2 x3 x4 x5 x6 x7 x8 x9 A B C D E F G x0)).1 (val (v15 x2 x3 x4 x5 x6 x7 x8 x9 A B C D E F G x0)).2.1 (val (v15 x2 x3 x4 x5 x6 x7 x8 x9 A B C D E F G x0)).2.2.1 (val (v15 x2 x3 x4 x5 x6 x7 x8 x9 A B C D E F G x0)).2.2.2.1 (val (v15 x2 x3 x4 x5 x6 x7 x8 x9 A B C D E F G x0)).2.2.2.2.1 (val (v15 x2 x3 x4 x5 x6 x7 x8 x9 A B C D E F G x0)).2.2.2.2.2.1 (val (v15 x2 x3 x4 x5 x6 x7 x8 x9 A B C D E F G x0)).2.2.2.2.2.2.1 (val (v15 x2 x3 x4 x5 x6 x7 x8 x9 A B C D E F G x0)).2.2.2.2.2.2.2.1 (val (v15 x2 x3 x4 x5 x6 x7 x8 x9 A B C D E F G x0)).2.2.2.2.2.2.2.2.1 (val (v15 x2 x3 x4 x5 x6 x7 x8 x9 A B C D E F G x0)).2.2.2.2.2.2.2.2.2.1 (val (v15 x2 x3 x4 x5 x6 x7 x8 x9 A B C D E F G x0)).2.2.2.2.2.2.2.2.2.2.1 (val (v15 x2 x3 x4 x5 x6 x7 x8 x9 A B C D E F G x0)).2.2.2.2.2.2.2.2.2.2.2.1 (val (v15 x2 x3 x4 x5 x6 x7 x8 x9 A B C D E F G x0)).2.2.2.2.2.2.2.2.2.2.2.2.1 (val (v15 x2 x3 x4 x5 x6 x7 x8 x9 A B C D E F G x0)).2.2.2.2.2.2.2.2.2.2.2.2.2.1 (val (v15 x2 x3 x4 x5 x6 x7 x8 x9 A B C D E F G x0)).2.2.2.2.2.2.2.2.2.2.2.2.2.2.1)) (cond (val (v16 (val (v14 x2 x3 x4 x5 x6 x7 x8 x9 A B C D E F G x0)).1 (val (v14 x2 x3 x4 x5 x6 x7 x8 x9 A B C D E F G x0)).2.1 (val (v14 x2 x3 x4 x5 x6 x7 x8 x9 A B C D E F G x0)).2.2.1 (val (v14 x2 x3 x4 x5 x6 x7 x8 x9 A B C D E F G x0)).2.2.2.1 (val (v14 x2 x3 x4 x5 x6 x7 x8 x9 A B C D E F G x0)).2.2.2.2.1 (val (v14 x2 x3 x4 x5 x6 x7 x8 x9 A B C D E F G x0)).2.2.2.2.2.1 (val (v14 x2 x3 x4 x5 x6 x7 x8 x9 A B C D E F G x0)).2.2.2.2.2.2.1 (val (v14 x2 x3 x4 x5 x6 x7 x8 x9 A B C D E F G x0)).2.2.2.2.2.2.2.1 (val (v14 x2 x3 x4 x5 x6 x7 x8 x9 A B C D E F G x0)).2.2.2.2.2.2.2.2.1 (val (v14 x2 x3 x4 x5 x6 x7 x8 x9 A B C D E F G x0)).2.2.2.2.2.2.2.2.2.1 (val (v14 x2 x3 x4 x5 x6 x7 x8 x9 A B C D E F G x0)).2.2.2.2.2.2.2.2.2.2.1 (val (v14 x2 x3 x4 x5 x6 x7 x8 x9 A B C D E F G x0)).2.2.2.2.2.2.2.2.2.2.2.1 (val (v14 x2 x3 x4 x5 x6 x7 x8 x9 A B C D E F G x0)).2.2.2.2.2.2.2.2.2.2.2.2.1 (val (v14 x2 x3 x4 x5 x6 x7 x8 x9 A B C D E F G x0)).2.2.2.2.2.2.2.2.2.2.2.2.2.1 (val (v14 x2 x3 x4 x5 x6 x7 x8 x9 A B C D E F G x0)).2.2.2.2.2.2.2.2.2.2.2.2.2.2.1 (val (v15 x2 x3 x4 x5 x6 x7 x8 x9 A B C D E F G x0)).1 (val (v15 x2 x3 x4 x5 x6 x7 x8 x9 A B C D E F G x0)).2.1 (val (v15 x2 x3 x4 x5 x6 x7 x8 x9 A B C D E F G x0)).2.2.1 (val (v15 x2 x3 x4 x5 x6 x7 x8 x9 A B C D E F G x0)).2.2.2.1 (val (v15 x2 x3 x4 x5 x6 x7 x8 x9 A B C D E F G x0)).2.2.2.2.1 (val (v15 x2 x3 x4 x5 x6 x7 x8 x9 A B C D E F G x0)).2.2.2.2.2.1 (val (v15 x2 x3 x4 x5 x6 x7 x8 x9 A B C D E F G x0)).2.2.2.2.2.2.1 (val (v15 x2 x3 x4 x5 x6 x7 x8 x9 A B C D E F G x0)).2.2.2.2.2.2.2.1 (val (v15 x2 x3 x4 x5 x6 x7 x8 x9 A B C D E F G x0)).2.2.2.2.2.2.2.2.1 (val (v15 x2 x3 x4 x5 x6 x7 x8 x9 A B C D E F G x0)).2.2.2.2.2.2.2.2.2.1 (val (v15 x2 x3 x4 x5 x6 x7 x8 x9 A B C D E F G x0)).2.2.2.2.2.2.2.2.2.2.1 (val (v15 x2 x3 x4 x5 x6 x7 x8 x9 A B C D E F G x0)).2.2.2.2.2.2.2.2.2.2.2.1 (val (v15 x2 x3 x4 x5 x6 x7 x8 x9 A B C D E F G x0)).2.2.2.2.2.2.2.2.2.2.2.2.1 (val (v15 x2 x3 x4 x5 x6 x7 x8 x9 A B C D E F G x0)).2.2.2.2.2.2.2.2.2.2.2.2.2.1 (val (v15 x2 x3 x4 x5 x6 x7 x8 x9 A B C D E F G x0)).2.2.2.2.2.2.2.2.2.2.2.2.2.2.1)) (cond ((val (v14 x2 x3 x4 x5 x6 x7 x8 x9 A B C D E F G x0)).2.2.2.2.2.2.2.2.2.2.2.2.2.2.2.1 == (val (v15 x2 x3 x4 x5 x6 x7 x8 x9 A B C D E F G x0)).2.2.2.2.2.2.2.2.2.2.2.2.2.2.2.1 && ((val (v14 x2 x3 x4 x5 x6 x7 x8 x9 A B C D E F G x0)).2.2.2.2.2.2.2.2.2.2.2.2.2.2.2.2.1 == (val (v15 x2 x3 x4 x5 x6 x7 x8 x9 A B C D E F G x0)).2.2.2.2.2.2.2.2.2.2.2.2.2.2.2.2.1 && ((val (v14 x2 x3 x4 x5 x6 x7 x8 x9 A B C D E F G x0)).2.2.2.2.2.2.2.2.2.2.2.2.2.2.2.2.2.1 == (val (v15 x2 x3 x4 x5 x6 x7 x8 x9 A B C D E F G x0)).2.2.2.2.2.2.2.2.2.2.2.2.2.2.2.2.2.1 && ((val (v14 x2 x3 x4 x5 x6 x7 x8 x9 A B C D E F G x0)).2.2.2.2.2.2.2.2.2.2.2.2.2.2.2.2.2.2.1 == (val (v15 x2 x3 x4 x5 x6 x7 x8 x9 A B C D E F G x0)).2.2.2.2.2.2.2.2.2.2.2.2.2.2.2.2.2.2.1 && ((val (v14 x2 x3 x4 x5 x6 x7 x8 x9 A B C D E F G x0)).2.2.2.2.2.2.2.2.2.2.2.2.2.2.2.2.2.2.2.1 == (val (v15 x2 x3 x4 x5 x6 x7 x8 x9 A B C D E F G x0)).2.2.2.2.2.2.2.2.2.2.2.2.2.2.2.2.2.2.2.1 && ((val (v14 x2 x3 x4 x5 x6 x7 x8 x9 A B C D E F G x0)).2.2.2.2.2.2.2.2.2.2.2.2.2.2.2.2.2.2.2.2.1 == (val (v15 x2 x3 x4 x5 x6 x7 x8 x9 A B C D E F G x0)).2.2.2.2.2.2.2.2.2.2.2.2.2.2.2.2.2.2.2.2.1 && ((val (v14 x2 x3 x4 x5 x6 x7 x8 x9 A B C D E F G x0)).2.2.2.2.2.2.2.2.2.2.2.2.2.2.2.2.2.2.2.2.2.1 == (val (v15 x2 x3 x4 x5 x6 x7 x8 x9 A B C D E F G x0)).2.2.2.2.2.2.2.2.2.2.2.2.2.2.2.2.2.2.2.2.2.1 && ((val (v14 x2 x3 x4 x5 x6 x7 x8 x9 A B C D E F G x0)).2.2.2.2.2.2.2.2.2.2.2.2.2.2.2.2.2.2.2.2.2.2.1 == (val (v15 x2 x3 x4 x5 x6 x7 x8 x9 A B C D E F G x0)).2.2.2.2.2.2.2.2.2.2.2.2.2.2.2.2.2.2.2.2.2.2.1 && true)))))))) (cond ((val (v14 x2 x3 x4 x5 x6 x7 x8 x9 A B C D E F G x0)).2.2.2.2.2.2.2.2.2.2.2.2.2.2.2.2.2.2.2.2.2.2.2.1 == (val (v15 x2 x3 x4 x5 x6 x7 x8 x9 A B C D E F G x0)).2.2.2.2.2.2.2.2.2.2.2.2.2.2.2.2.2.2.2.2.2.2.2.1) (cond (ok (v17 (val (v14 x2 x3 x4 x5 x6 x7 x8 x9 A B C D E F G x0)).2.2.2.2.2.2.2.2.2.2.2.2.2.2.2.2.2.2.2.2.2.2.2.2.1 (val (v15 x2 x3 x4 x5 x6 x7 x8 x9 A B C D E F G x0)).2.2.2.2.2.2.2.2.2.2.2.2.2.2.2.2.2.2.2.2.2.2.2.2.1)) (cond (val (v17 (val (v14 x2 x3 x4 x5 x6 x7 x8 x9 A B C D E F G x0)).2.2.2.2.2.2.2.2.2.2.2.2.2.2.2.2.2.2.2.2.2.2.2.2.1 (val (v15 x2 x3 x4 x5 x6 x7 x8 x9 A B C D E F G x0)).2.2.2.2.2.2.2.2.2.2.2.2.2.2.2.2.2.2.2.2.2.2.2.2.1)) (cond ((val (v14 x2 x3 x4 x5 x6 x7 x8 x9 A B C D E F G x0)).2.2.2.2.2.2.2.2.2.2.2.2.2.2.2.2.2.2.2.2.2.2.2.2.2 == (val (v15 x2 x3 x4 x5 x6 x7 x8 x9 A B C D E F G x0)).2.2.2.2.2.2.2.2.2.2.2.2.2.2.2.2.2.2.2.2.2.2.2.2.2) (cond (ok (v18 x2 x3 x4 x5 x6 x7 x8 x9 A B C D E F G)) (cond (ok (v19 x2 x3 x4 x5 x6 x7 x8 x9 A B C D E F G)) (some (val (v18 x2 x3 x4 x5 x6 x7 x8 x9 A B C D E F G) == val (v19 x2 x3 x4 x5 x6 x7 x8 x9 A B C D E F G))) none) none) (some (false))) (some (false))) none) (some (false))) (some (false))) (some (false))) none) (some (false))) (some (false))) none) (some (false))) none) (some (false))) none) none) none) none)
noncomputable def xLat (x0 : Int) (x1 : Bool) (x2 x3 x4 x5 x6 : Int) (x7 : (List (List (PKt × Int)))) (x8 x9 A B C D E F G I J K L M N : Int) (O : Bool) (P : Bool) : Bool → Ex × CS := fun r => (.ret, { sl := [(6, .v (.sc (.bool (r))))], lo := [], h := [], n0 := 0, w := true })
theorem bLat (k : Nat) (cX : Ex → CS → Option (Ex × CS)) (x0 : Int) (x1 : Bool) (x2 x3 x4 x5 x6 : Int) (x7 : (List (List (PKt × Int)))) (x8 x9 A B C D E F G I J K L M N : Int) (O : Bool) (P : Bool) : zo Try.prog (tn53 3) (TM.evF Try.prog (tn53) dOk (k + 40)) dOk (k + 40) (zh Try.prog (tn0 3) 3 36) 0 36 { sl := [(2, .v (.sc (I4 x0))), (3, .l 3 0), (4, .l 4 0), (7, .v (.sc (.bool x1)))], lo := [(3, [I4 (x2), I4 (x3), I4 (x4), I4 (x5), I4 (x6), .d 51 (.list 55 QDy) (x7), I4 (x8), I4 (x9), I4 (A), I4 (B), I4 (C), I4 (D), I4 (E), I4 (F), .int .u64 (G)]), (4, [I4 (I), I4 (J), I4 (K), I4 (L), I4 (M), I4 (N), .bool (O), .bool (P)])], h := [], n0 := 0, w := false } cX = (cond (ok (v12 x2 x3 x4 x5 x6 x7 x8 x9 A B C D E F G I J K L M N O P x0)) (cond (ok (v13 x2 x3 x4 x5 x6 x7 x8 x9 A B C D E F G I J K L M N O P x0)) (cond (ok (v14 x2 x3 x4 x5 x6 x7 x8 x9 A B C D E F G x0)) (cond (ok (v15 x2 x3 x4 x5 x6 x7 x8 x9 A B C D E F G x0)) (cond x1 (cond (ok (v16 (val (v12 x2 x3 x4 x5 x6 x7 x8 x9 A B C D E F G I J K L M N O P x0)).1 (val (v12 x2 x3 x4 x5 x6 x7 x8 x9 A B C D E F G I J K L M N O P x0)).2.1 (val (v12 x2 x3 x4 x5 x6 x7 x8 x9 A B C D E F G I J K L M N O P x0)).2.2.1 (val (v12 x2 x3 x4 x5 x6 x7 x8 x9 A B C D E F G I J K L M N O P x0)).2.2.2.1 (val (v12 x2 x3 x4 x5 x6 x7 x8 x9 A B C D E F G I J K L M N O P x0)).2.2.2.2.1 (val (v12 x2 x3 x4 x5 x6 x7 x8 x9 A B C D E F G I J K L M N O P x0)).2.2.2.2.2.1 (val (v12 x2 x3 x4 x5 x6 x7 x8 x9 A B C D E F G I J K L M N O P x0)).2.2.2.2.2.2.1 (val (v12 x2 x3 x4 x5 x6 x7 x8 x9 A B C D E F G I J K L M N O P x0)).2.2.2.2.2.2.2.1 (val (v12 x2 x3 x4 x5 x6 x7 x8 x9 A B C D E F G I J K L M N O P x0)).2.2.2.2.2.2.2.2.1 (val (v12 x2 x3 x4 x5 x6 x7 x8 x9 A B C D E F G I J K L M N O P x0)).2.2.2.2.2.2.2.2.2.1 (val (v12 x2 x3 x4 x5 x6 x7 x8 x9 A B C D E F G I J K L M N O P x0)).2.2.2.2.2.2.2.2.2.2.1 (val (v12 x2 x3 x4 x5 x6 x7 x8 x9 A B C D E F G I J K L M N O P x0)).2.2.2.2.2.2.2.2.2.2.2.1 (val (v12 x2 x3 x4 x5 x6 x7 x8 x9 A B C D E F G I J K L M N O P x0)).2.2.2.2.2.2.2.2.2.2.2.2.1 (val (v12 x2 x3 x4 x5 x6 x7 x8 x9 A B C D E F G I J K L M N O P x0)).2.2.2.2.2.2.2.2.2.2.2.2.2.1 (val (v12 x2 x3 x4 x5 x6 x7 x8 x9 A B C D E F G I J K L M N O P x0)).2.2.2.2.2.2.2.2.2.2.2.2.2.2.1 (val (v13 x2 x3 x4 x5 x6 x7 x8 x9 A B C D E F G I J K L M N O P x0)).1 (val (v13 x2 x3 x4 x5 x6 x7 x8 x9 A B C D E F G I J K L M N O P x0)).2.1 (val (v13 x2 x3 x4 x5 x6 x7 x8 x9 A B C D E F G I J K L M N O P x0)).2.2.1 (val (v13 x2 x3 x4 x5 x6 x7 x8 x9 A B C D E F G I J K L M N O P x0)).2.2.2.1 (val (v13 x2 x3 x4 x5 x6 x7 x8 x9 A B C D E F G I J K L M N O P x0)).2.2.2.2.1 (val (v13 x2 x3 x4 x5 x6 x7 x8 x9 A B C D E F G I J K L M N O P x0)).2.2.2.2.2.1 (val (v13 x2 x3 x4 x5 x6 x7 x8 x9 A B C D E F G I J K L M N O P x0)).2.2.2.2.2.2.1 (val (v13 x2 x3 x4 x5 x6 x7 x8 x9 A B C D E F G I J K L M N O P x0)).2.2.2.2.2.2.2.1 (val (v13 x2 x3 x4 x5 x6 x7 x8 x9 A B C D E F G I J K L M N O P x0)).2.2.2.2.2.2.2.2.1 (val (v13 x2 x3 x4 x5 x6 x7 x8 x9 A B C D E F G I J K L M N O P x0)).2.2.2.2.2.2.2.2.2.1 (val (v13 x2 x3 x4 x5 x6 x7 x8 x9 A B C D E F G I J K L M N O P x0)).2.2.2.2.2.2.2.2.2.2.1 (val (v13 x2 x3 x4 x5 x6 x7 x8 x9 A B C D E F G I J K L M N O P x0)).2.2.2.2.2.2.2.2.2.2.2.1 (val (v13 x2 x3 x4 x5 x6 x7 x8 x9 A B C D E F G I J K L M N O P x0)).2.2.2.2.2.2.2.2.2.2.2.2.1 (val (v13 x2 x3 x4 x5 x6 x7 x8 x9 A B C D E F G I J K L M N O P x0)).2.2.2.2.2.2.2.2.2.2.2.2.2.1 (val (v13 x2 x3 x4 x5 x6 x7 x8 x9 A B C D E F G I J K L M N O P x0)).2.2.2.2.2.2.2.2.2.2.2.2.2.2.1)) (cond (val (v16 (val (v12 x2 x3 x4 x5 x6 x7 x8 x9 A B C D E F G I J K L M N O P x0)).1 (val (v12 x2 x3 x4 x5 x6 x7 x8 x9 A B C D E F G I J K L M N O P x0)).2.1 (val (v12 x2 x3 x4 x5 x6 x7 x8 x9 A B C D E F G I J K L M N O P x0)).2.2.1 (val (v12 x2 x3 x4 x5 x6 x7 x8 x9 A B C D E F G I J K L M N O P x0)).2.2.2.1 (val (v12 x2 x3 x4 x5 x6 x7 x8 x9 A B C D E F G I J K L M N O P x0)).2.2.2.2.1 (val (v12 x2 x3 x4 x5 x6 x7 x8 x9 A B C D E F G I J K L M N O P x0)).2.2.2.2.2.1 (val (v12 x2 x3 x4 x5 x6 x7 x8 x9 A B C D E F G I J K L M N O P x0)).2.2.2.2.2.2.1 (val (v12 x2 x3 x4 x5 x6 x7 x8 x9 A B C D E F G I J K L M N O P x0)).2.2.2.2.2.2.2.1 (val (v12 x2 x3 x4 x5 x6 x7 x8 x9 A B C D E F G I J K L M N O P x0)).2.2.2.2.2.2.2.2.1 (val (v12 x2 x3 x4 x5 x6 x7 x8 x9 A B C D E F G I J K L M N O P x0)).2.2.2.2.2.2.2.2.2.1 (val (v12 x2 x3 x4 x5 x6 x7 x8 x9 A B C D E F G I J K L M N O P x0)).2.2.2.2.2.2.2.2.2.2.1 (val (v12 x2 x3 x4 x5 x6 x7 x8 x9 A B C D E F G I J K L M N O P x0)).2.2.2.2.2.2.2.2.2.2.2.1 (val (v12 x2 x3 x4 x5 x6 x7 x8 x9 A B C D E F G I J K L M N O P x0)).2.2.2.2.2.2.2.2.2.2.2.2.1 (val (v12 x2 x3 x4 x5 x6 x7 x8 x9 A B C D E F G I J K L M N O P x0)).2.2.2.2.2.2.2.2.2.2.2.2.2.1 (val (v12 x2 x3 x4 x5 x6 x7 x8 x9 A B C D E F G I J K L M N O P x0)).2.2.2.2.2.2.2.2.2.2.2.2.2.2.1 (val (v13 x2 x3 x4 x5 x6 x7 x8 x9 A B C D E F G I J K L M N O P x0)).1 (val (v13 x2 x3 x4 x5 x6 x7 x8 x9 A B C D E F G I J K L M N O P x0)).2.1 (val (v13 x2 x3 x4 x5 x6 x7 x8 x9 A B C D E F G I J K L M N O P x0)).2.2.1 (val (v13 x2 x3 x4 x5 x6 x7 x8 x9 A B C D E F G I J K L M N O P x0)).2.2.2.1 (val (v13 x2 x3 x4 x5 x6 x7 x8 x9 A B C D E F G I J K L M N O P x0)).2.2.2.2.1 (val (v13 x2 x3 x4 x5 x6 x7 x8 x9 A B C D E F G I J K L M N O P x0)).2.2.2.2.2.1 (val (v13 x2 x3 x4 x5 x6 x7 x8 x9 A B C D E F G I J K L M N O P x0)).2.2.2.2.2.2.1 (val (v13 x2 x3 x4 x5 x6 x7 x8 x9 A B C D E F G I J K L M N O P x0)).2.2.2.2.2.2.2.1 (val (v13 x2 x3 x4 x5 x6 x7 x8 x9 A B C D E F G I J K L M N O P x0)).2.2.2.2.2.2.2.2.1 (val (v13 x2 x3 x4 x5 x6 x7 x8 x9 A B C D E F G I J K L M N O P x0)).2.2.2.2.2.2.2.2.2.1 (val (v13 x2 x3 x4 x5 x6 x7 x8 x9 A B C D E F G I J K L M N O P x0)).2.2.2.2.2.2.2.2.2.2.1 (val (v13 x2 x3 x4 x5 x6 x7 x8 x9 A B C D E F G I J K L M N O P x0)).2.2.2.2.2.2.2.2.2.2.2.1 (val (v13 x2 x3 x4 x5 x6 x7 x8 x9 A B C D E F G I J K L M N O P x0)).2.2.2.2.2.2.2.2.2.2.2.2.1 (val (v13 x2 x3 x4 x5 x6 x7 x8 x9 A B C D E F G I J K L M N O P x0)).2.2.2.2.2.2.2.2.2.2.2.2.2.1 (val (v13 x2 x3 x4 x5 x6 x7 x8 x9 A B C D E F G I J K L M N O P x0)).2.2.2.2.2.2.2.2.2.2.2.2.2.2.1)) (cond (ok (v17 (val (v12 x2 x3 x4 x5 x6 x7 x8 x9 A B C D E F G I J K L M N O P x0)).2.2.2.2.2.2.2.2.2.2.2.2.2.2.2.1 (val (v13 x2 x3 x4 x5 x6 x7 x8 x9 A B C D E F G I J K L M N O P x0)).2.2.2.2.2.2.2.2.2.2.2.2.2.2.2.1)) (cond (val (v17 (val (v12 x2 x3 x4 x5 x6 x7 x8 x9 A B C D E F G I J K L M N O P x0)).2.2.2.2.2.2.2.2.2.2.2.2.2.2.2.1 (val (v13 x2 x3 x4 x5 x6 x7 x8 x9 A B C D E F G I J K L M N O P x0)).2.2.2.2.2.2.2.2.2.2.2.2.2.2.2.1)) (cond ((val (v12 x2 x3 x4 x5 x6 x7 x8 x9 A B C D E F G I J K L M N O P x0)).2.2.2.2.2.2.2.2.2.2.2.2.2.2.2.2 == (val (v13 x2 x3 x4 x5 x6 x7 x8 x9 A B C D E F G I J K L M N O P x0)).2.2.2.2.2.2.2.2.2.2.2.2.2.2.2.2) (cond (ok (v16 (val (v14 x2 x3 x4 x5 x6 x7 x8 x9 A B C D E F G x0)).1 (val (v14 x2 x3 x4 x5 x6 x7 x8 x9 A B C D E F G x0)).2.1 (val (v14 x2 x3 x4 x5 x6 x7 x8 x9 A B C D E F G x0)).2.2.1 (val (v14 x2 x3 x4 x5 x6 x7 x8 x9 A B C D E F G x0)).2.2.2.1 (val (v14 x2 x3 x4 x5 x6 x7 x8 x9 A B C D E F G x0)).2.2.2.2.1 (val (v14 x2 x3 x4 x5 x6 x7 x8 x9 A B C D E F G x0)).2.2.2.2.2.1 (val (v14 x2 x3 x4 x5 x6 x7 x8 x9 A B C D E F G x0)).2.2.2.2.2.2.1 (val (v14 x2 x3 x4 x5 x6 x7 x8 x9 A B C D E F G x0)).2.2.2.2.2.2.2.1 (val (v14 x2 x3 x4 x5 x6 x7 x8 x9 A B C D E F G x0)).2.2.2.2.2.2.2.2.1 (val (v14 x2 x3 x4 x5 x6 x7 x8 x9 A B C D E F G x0)).2.2.2.2.2.2.2.2.2.1 (val (v14 x2 x3 x4 x5 x6 x7 x8 x9 A B C D E F G x0)).2.2.2.2.2.2.2.2.2.2.1 (val (v14 x2 x3 x4 x5 x6 x7 x8 x9 A B C D E F G x0)).2.2.2.2.2.2.2.2.2.2.2.1 (val (v14 x2 x3 x4 x5 x6 x7 x8 x9 A B C D E F G x0)).2.2.2.2.2.2.2.2.2.2.2.2.1 (val (v14 x2 x3 x4 x5 x6 x7 x8 x9 A B C D E F G x0)).2.2.2.2.2.2.2.2.2.2.2.2.2.1 (val (v14 x2 x3 x4 x5 x6 x7 x8 x9 A B C D E F G x0)).2.2.2.2.2.2.2.2.2.2.2.2.2.2.1 (val (v15 x2 x3 x4 x5 x6 x7 x8 x9 A B C D E F G x0)).1 (val (v15 x2 x3 x4 x5 x6 x7 x8 x9 A B C D E F G x0)).2.1 (val (v15 x2 x3 x4 x5 x6 x7 x8 x9 A B C D E F G x0)).2.2.1 (val (v15 x2 x3 x4 x5 x6 x7 x8 x9 A B C D E F G x0)).2.2.2.1 (val (v15 x2 x3 x4 x5 x6 x7 x8 x9 A B C D E F G x0)).2.2.2.2.1 (val (v15 x2 x3 x4 x5 x6 x7 x8 x9 A B C D E F G x0)).2.2.2.2.2.1 (val (v15 x2 x3 x4 x5 x6 x7 x8 x9 A B C D E F G x0)).2.2.2.2.2.2.1 (val (v15 x2 x3 x4 x5 x6 x7 x8 x9 A B C D E F G x0)).2.2.2.2.2.2.2.1 (val (v15 x2 x3 x4 x5 x6 x7 x8 x9 A B C D E F G x0)).2.2.2.2.2.2.2.2.1 (val (v15 x2 x3 x4 x5 x6 x7 x8 x9 A B C D E F G x0)).2.2.2.2.2.2.2.2.2.1 (val (v15 x2 x3 x4 x5 x6 x7 x8 x9 A B C D E F G x0)).2.2.2.2.2.2.2.2.2.2.1 (val (v15 x2 x3 x4 x5 x6 x7 x8 x9 A B C D E F G x0)).2.2.2.2.2.2.2.2.2.2.2.1 (val (v15 x2 x3 x4 x5 x6 x7 x8 x9 A B C D E F G x0)).2.2.2.2.2.2.2.2.2.2.2.2.1 (val (v15 x2 x3 x4 x5 x6 x7 x8 x9 A B C D E F G x0)).2.2.2.2.2.2.2.2.2.2.2.2.2.1 (val (v15 x2 x3 x4 x5 x6 x7 x8 x9 A B C D E F G x0)).2.2.2.2.2.2.2.2.2.2.2.2.2.2.1)) (cond (val (v16 (val (v14 x2 x3 x4 x5 x6 x7 x8 x9 A B C D E F G x0)).1 (val (v14 x2 x3 x4 x5 x6 x7 x8 x9 A B C D E F G x0)).2.1 (val (v14 x2 x3 x4 x5 x6 x7 x8 x9 A B C D E F G x0)).2.2.1 (val (v14 x2 x3 x4 x5 x6 x7 x8 x9 A B C D E F G x0)).2.2.2.1 (val (v14 x2 x3 x4 x5 x6 x7 x8 x9 A B C D E F G x0)).2.2.2.2.1 (val (v14 x2 x3 x4 x5 x6 x7 x8 x9 A B C D E F G x0)).2.2.2.2.2.1 (val (v14 x2 x3 x4 x5 x6 x7 x8 x9 A B C D E F G x0)).2.2.2.2.2.2.1 (val (v14 x2 x3 x4 x5 x6 x7 x8 x9 A B C D E F G x0)).2.2.2.2.2.2.2.1 (val (v14 x2 x3 x4 x5 x6 x7 x8 x9 A B C D E F G x0)).2.2.2.2.2.2.2.2.1 (val (v14 x2 x3 x4 x5 x6 x7 x8 x9 A B C D E F G x0)).2.2.2.2.2.2.2.2.2.1 (val (v14 x2 x3 x4 x5 x6 x7 x8 x9 A B C D E F G x0)).2.2.2.2.2.2.2.2.2.2.1 (val (v14 x2 x3 x4 x5 x6 x7 x8 x9 A B C D E F G x0)).2.2.2.2.2.2.2.2.2.2.2.1 (val (v14 x2 x3 x4 x5 x6 x7 x8 x9 A B C D E F G x0)).2.2.2.2.2.2.2.2.2.2.2.2.1 (val (v14 x2 x3 x4 x5 x6 x7 x8 x9 A B C D E F G x0)).2.2.2.2.2.2.2.2.2.2.2.2.2.1 (val (v14 x2 x3 x4 x5 x6 x7 x8 x9 A B C D E F G x0)).2.2.2.2.2.2.2.2.2.2.2.2.2.2.1 (val (v15 x2 x3 x4 x5 x6 x7 x8 x9 A B C D E F G x0)).1 (val (v15 x2 x3 x4 x5 x6 x7 x8 x9 A B C D E F G x0)).2.1 (val (v15 x2 x3 x4 x5 x6 x7 x8 x9 A B C D E F G x0)).2.2.1 (val (v15 x2 x3 x4 x5 x6 x7 x8 x9 A B C D E F G x0)).2.2.2.1 (val (v15 x2 x3 x4 x5 x6 x7 x8 x9 A B C D E F G x0)).2.2.2.2.1 (val (v15 x2 x3 x4 x5 x6 x7 x8 x9 A B C D E F G x0)).2.2.2.2.2.1 (val (v15 x2 x3 x4 x5 x6 x7 x8 x9 A B C D E F G x0)).2.2.2.2.2.2.1 (val (v15 x2 x3 x4 x5 x6 x7 x8 x9 A B C D E F G x0)).2.2.2.2.2.2.2.1 (val (v15 x2 x3 x4 x5 x6 x7 x8 x9 A B C D E F G x0)).2.2.2.2.2.2.2.2.1 (val (v15 x2 x3 x4 x5 x6 x7 x8 x9 A B C D E F G x0)).2.2.2.2.2.2.2.2.2.1 (val (v15 x2 x3 x4 x5 x6 x7 x8 x9 A B C D E F G x0)).2.2.2.2.2.2.2.2.2.2.1 (val (v15 x2 x3 x4 x5 x6 x7 x8 x9 A B C D E F G x0)).2.2.2.2.2.2.2.2.2.2.2.1 (val (v15 x2 x3 x4 x5 x6 x7 x8 x9 A B C D E F G x0)).2.2.2.2.2.2.2.2.2.2.2.2.1 (val (v15 x2 x3 x4 x5 x6 x7 x8 x9 A B C D E F G x0)).2.2.2.2.2.2.2.2.2.2.2.2.2.1 (val (v15 x2 x3 x4 x5 x6 x7 x8 x9 A B C D E F G x0)).2.2.2.2.2.2.2.2.2.2.2.2.2.2.1)) (cond ((val (v14 x2 x3 x4 x5 x6 x7 x8 x9 A B C D E F G x0)).2.2.2.2.2.2.2.2.2.2.2.2.2.2.2.1 == (val (v15 x2 x3 x4 x5 x6 x7 x8 x9 A B C D E F G x0)).2.2.2.2.2.2.2.2.2.2.2.2.2.2.2.1 && ((val (v14 x2 x3 x4 x5 x6 x7 x8 x9 A B C D E F G x0)).2.2.2.2.2.2.2.2.2.2.2.2.2.2.2.2.1 == (val (v15 x2 x3 x4 x5 x6 x7 x8 x9 A B C D E F G x0)).2.2.2.2.2.2.2.2.2.2.2.2.2.2.2.2.1 && ((val (v14 x2 x3 x4 x5 x6 x7 x8 x9 A B C D E F G x0)).2.2.2.2.2.2.2.2.2.2.2.2.2.2.2.2.2.1 == (val (v15 x2 x3 x4 x5 x6 x7 x8 x9 A B C D E F G x0)).2.2.2.2.2.2.2.2.2.2.2.2.2.2.2.2.2.1 && ((val (v14 x2 x3 x4 x5 x6 x7 x8 x9 A B C D E F G x0)).2.2.2.2.2.2.2.2.2.2.2.2.2.2.2.2.2.2.1 == (val (v15 x2 x3 x4 x5 x6 x7 x8 x9 A B C D E F G x0)).2.2.2.2.2.2.2.2.2.2.2.2.2.2.2.2.2.2.1 && ((val (v14 x2 x3 x4 x5 x6 x7 x8 x9 A B C D E F G x0)).2.2.2.2.2.2.2.2.2.2.2.2.2.2.2.2.2.2.2.1 == (val (v15 x2 x3 x4 x5 x6 x7 x8 x9 A B C D E F G x0)).2.2.2.2.2.2.2.2.2.2.2.2.2.2.2.2.2.2.2.1 && ((val (v14 x2 x3 x4 x5 x6 x7 x8 x9 A B C D E F G x0)).2.2.2.2.2.2.2.2.2.2.2.2.2.2.2.2.2.2.2.2.1 == (val (v15 x2 x3 x4 x5 x6 x7 x8 x9 A B C D E F G x0)).2.2.2.2.2.2.2.2.2.2.2.2.2.2.2.2.2.2.2.2.1 && ((val (v14 x2 x3 x4 x5 x6 x7 x8 x9 A B C D E F G x0)).2.2.2.2.2.2.2.2.2.2.2.2.2.2.2.2.2.2.2.2.2.1 == (val (v15 x2 x3 x4 x5 x6 x7 x8 x9 A B C D E F G x0)).2.2.2.2.2.2.2.2.2.2.2.2.2.2.2.2.2.2.2.2.2.1 && ((val (v14 x2 x3 x4 x5 x6 x7 x8 x9 A B C D E F G x0)).2.2.2.2.2.2.2.2.2.2.2.2.2.2.2.2.2.2.2.2.2.2.1 == (val (v15 x2 x3 x4 x5 x6 x7 x8 x9 A B C D E F G x0)).2.2.2.2.2.2.2.2.2.2.2.2.2.2.2.2.2.2.2.2.2.2.1 && true)))))))) (cond ((val (v14 x2 x3 x4 x5 x6 x7 x8 x9 A B C D E F G x0)).2.2.2.2.2.2.2.2.2.2.2.2.2.2.2.2.2.2.2.2.2.2.2.1 == (val (v15 x2 x3 x4 x5 x6 x7 x8 x9 A B C D E F G x0)).2.2.2.2.2.2.2.2.2.2.2.2.2.2.2.2.2.2.2.2.2.2.2.1) (cond (ok (v17 (val (v14 x2 x3 x4 x5 x6 x7 x8 x9 A B C D E F G x0)).2.2.2.2.2.2.2.2.2.2.2.2.2.2.2.2.2.2.2.2.2.2.2.2.1 (val (v15 x2 x3 x4 x5 x6 x7 x8 x9 A B C D E F G x0)).2.2.2.2.2.2.2.2.2.2.2.2.2.2.2.2.2.2.2.2.2.2.2.2.1)) (cond (val (v17 (val (v14 x2 x3 x4 x5 x6 x7 x8 x9 A B C D E F G x0)).2.2.2.2.2.2.2.2.2.2.2.2.2.2.2.2.2.2.2.2.2.2.2.2.1 (val (v15 x2 x3 x4 x5 x6 x7 x8 x9 A B C D E F G x0)).2.2.2.2.2.2.2.2.2.2.2.2.2.2.2.2.2.2.2.2.2.2.2.2.1)) (cond ((val (v14 x2 x3 x4 x5 x6 x7 x8 x9 A B C D E F G x0)).2.2.2.2.2.2.2.2.2.2.2.2.2.2.2.2.2.2.2.2.2.2.2.2.2 == (val (v15 x2 x3 x4 x5 x6 x7 x8 x9 A B C D E F G x0)).2.2.2.2.2.2.2.2.2.2.2.2.2.2.2.2.2.2.2.2.2.2.2.2.2) (cond (ok (v18 x2 x3 x4 x5 x6 x7 x8 x9 A B C D E F G)) (cond (ok (v19 x2 x3 x4 x5 x6 x7 x8 x9 A B C D E F G)) (cX .ret { sl := [(6, .v (.sc (.bool (val (v18 x2 x3 x4 x5 x6 x7 x8 x9 A B C D E F G) == val (v19 x2 x3 x4 x5 x6 x7 x8 x9 A B C D E F G)))))], lo := [], h := [], n0 := 0, w := true }) none) none) (cX .ret { sl := [(6, .v (.sc (.bool (false))))], lo := [], h := [], n0 := 0, w := true })) (cX .ret { sl := [(6, .v (.sc (.bool (false))))], lo := [], h := [], n0 := 0, w := true })) none) (cX .ret { sl := [(6, .v (.sc (.bool (false))))], lo := [], h := [], n0 := 0, w := true })) (cX .ret { sl := [(6, .v (.sc (.bool (false))))], lo := [], h := [], n0 := 0, w := true })) (cX .ret { sl := [(6, .v (.sc (.bool (false))))], lo := [], h := [], n0 := 0, w := true })) none) (cX .ret { sl := [(6, .v (.sc (.bool (false))))], lo := [], h := [], n0 := 0, w := true })) (cX .ret { sl := [(6, .v (.sc (.bool (false))))], lo := [], h := [], n0 := 0, w := true })) none) (cX .ret { sl := [(6, .v (.sc (.bool (false))))], lo := [], h := [], n0 := 0, w := true })) none) (cX .ret { sl := [(6, .v (.sc (.bool (false))))], lo := [], h := [], n0 := 0, w := true })) none) none) none) none) := by kernel_rfl
theorem lLat (k : Nat) (x0 : Int) (x1 : Bool) (x2 x3 x4 x5 x6 : Int) (x7 : (List (List (PKt × Int)))) (x8 x9 A B C D E F G I J K L M N : Int) (O : Bool) (P : Bool) (r : Bool) : Lat x0 x1 x2 x3 x4 x5 x6 x7 x8 x9 A B C D E F G I J K L M N O P = some r → zo Try.prog (tn53 3) (TM.evF Try.prog (tn53) dOk (k + 40)) dOk (k + 40) (zh Try.prog (tn0 3) 3 36) 0 36 { sl := [(2, .v (.sc (I4 x0))), (3, .l 3 0), (4, .l 4 0), (7, .v (.sc (.bool x1)))], lo := [(3, [I4 (x2), I4 (x3), I4 (x4), I4 (x5), I4 (x6), .d 51 (.list 55 QDy) (x7), I4 (x8), I4 (x9), I4 (A), I4 (B), I4 (C), I4 (D), I4 (E), I4 (F), .int .u64 (G)]), (4, [I4 (I), I4 (J), I4 (K), I4 (L), I4 (M), I4 (N), .bool (O), .bool (P)])], h := [], n0 := 0, w := false } (fun e s => some (e, s)) = some (xLat x0 x1 x2 x3 x4 x5 x6 x7 x8 x9 A B C D E F G I J K L M N O P r) := by
 rw [bLat]
 unfold Lat
 refine ze ?_ ?_
 refine ze ?_ ?_
 refine ze ?_ ?_
 refine ze ?_ ?_
 refine ze ?_ ?_
 refine ze ?_ ?_
 refine ze ?_ ?_
 refine ze ?_ ?_
 refine ze ?_ ?_
 refine ze ?_ ?_
 refine ze ?_ ?_
 refine ze ?_ ?_
 refine ze ?_ ?_
 refine ze ?_ ?_
 refine ze ?_ ?_
 refine ze ?_ ?_
 refine ze ?_ ?_
 refine ze ?_ ?_
 refine ze ?_ ?_
 intro h; cases h; rfl
 intro h; cases h
 intro h; cases h
 intro h; cases h; rfl
 intro h; cases h; rfl
 intro h; cases h
 intro h; cases h; rfl
 intro h; cases h; rfl
 intro h; cases h; rfl
 intro h; cases h
 intro h; cases h; rfl
 intro h; cases h; rfl
 intro h; cases h
 intro h; cases h; rfl
 intro h; cases h
 intro h; cases h; rfl
 intro h; cases h
 intro h; cases h
 intro h; cases h
 intro h; cases h
noncomputable def sLat : TellS := fun S => dCS 0 S fun y1 y2 y3 => dSI 2 .i64 y1 fun x0 l4 => dSt 3 l4 fun y6 l5 => dL 3 0 y6 <| dSt 4 l5 fun y8 l7 => dL 4 0 y8 <| dSs 7 l7 fun y10 l9 => zA y10 fun x1 => dE l9 <| dLo 3 y2 fun y11 l12 => dK y11 fun x2 l13 => dK l13 fun x3 l14 => dK l14 fun x4 l15 => dK l15 fun x5 l16 => dK l16 fun x6 l17 => dC l17 fun y18 l19 => dD 51 (.list 55 QDy) y18 fun x7 => dK l19 fun x8 l20 => dK l20 fun x9 l21 => dK l21 fun A l22 => dK l22 fun B l23 => dK l23 fun C l24 => dK l24 fun D l25 => dK l25 fun E l26 => dK l26 fun F l27 => dCI .u64 l27 fun G l28 => dE l28 <| dLo 4 l12 fun y29 l30 => dK y29 fun I l31 => dK l31 fun J l32 => dK l32 fun K l33 => dK l33 fun L l34 => dK l34 fun M l35 => dK l35 fun N l36 => dC l36 fun y37 l38 => zA y37 fun O => dC l38 fun y39 l40 => zA y39 fun P => dE l40 <| dE l30 <| dE y3 <|  some [(ok (Lat x0 x1 x2 x3 x4 x5 x6 x7 x8 x9 A B C D E F G I J K L M N O P), .ret, { sl := [(6, .v (.sc (.bool ((val (Lat x0 x1 x2 x3 x4 x5 x6 x7 x8 x9 A B C D E F G I J K L M N O P))))))], lo := [], h := [], n0 := 0, w := true })]
theorem wLat : zG Try.prog dOk base o53 t53 ((3, 36), sLat) := by
 refine ⟨(zh Try.prog (tn0 3) 3 36), 0, by kernel_rfl, ?_⟩
 intro S alts e S' h10 h2
 have h1 : sLat S = some alts := h10
 clear h10
 unfold sLat at h1
 replace h1 := yN h1; obtain ⟨_, _, _, rfl, h1⟩ := h1
 replace h1 := xp h1; obtain ⟨_, _, rfl, h1⟩ := h1
 replace h1 := zd h1; obtain ⟨_, _, rfl, h1⟩ := h1
 replace h1 := dLq h1; obtain ⟨rfl, h1⟩ := h1
 replace h1 := zd h1; obtain ⟨_, _, rfl, h1⟩ := h1
 replace h1 := dLq h1; obtain ⟨rfl, h1⟩ := h1
 replace h1 := yf h1; obtain ⟨_, _, rfl, h1⟩ := h1
 replace h1 := zr h1; obtain ⟨_, rfl, h1⟩ := h1
 replace h1 := dEq h1; obtain ⟨rfl, h1⟩ := h1
 replace h1 := zQ h1; obtain ⟨_, _, rfl, h1⟩ := h1
 replace h1 := dJ5 h1; obtain ⟨_, _, _, _, _, _, rfl, h1⟩ := h1
 replace h1 := dCq h1; obtain ⟨_, _, rfl, h1⟩ := h1
 replace h1 := dDq h1; obtain ⟨_, rfl, h1⟩ := h1
 replace h1 := dJ9 h1; obtain ⟨_, _, _, _, _, _, _, _, _, _, rfl, h1⟩ := h1
 replace h1 := dEq h1; obtain ⟨rfl, h1⟩ := h1
 replace h1 := zQ h1; obtain ⟨_, _, rfl, h1⟩ := h1
 replace h1 := dJ6 h1; obtain ⟨_, _, _, _, _, _, _, rfl, h1⟩ := h1
 replace h1 := dCq h1; obtain ⟨_, _, rfl, h1⟩ := h1
 replace h1 := zr h1; obtain ⟨_, rfl, h1⟩ := h1
 replace h1 := dCq h1; obtain ⟨_, _, rfl, h1⟩ := h1
 replace h1 := zr h1; obtain ⟨_, rfl, h1⟩ := h1
 replace h1 := dEq h1; obtain ⟨rfl, h1⟩ := h1
 replace h1 := dEq h1; obtain ⟨rfl, h1⟩ := h1
 replace h1 := dEq h1; obtain ⟨rfl, h1⟩ := h1
 cases h1
 obtain ⟨hc0, rfl, rfl⟩ := zH h2
 exact ⟨0 + 40, (zy rfl).trans (lLat 0 _ _ _ _ _ _ _ _ _ _ _ _ _ _ _ _ _ _ _ _ _ _ _ _ _ _ (zk hc0))⟩
noncomputable def o54 : OrcT := o53
noncomputable def t54 : TellT := ((3, 36), sLat) :: t53
noncomputable abbrev tn54 : FuncId → TAn := zj base o54 t54
theorem ok54 : TnOk Try.prog tn54 (mkA base) dOk := by
 have h0 : TnOk Try.prog (tn53) (mkA base) dOk := ok53
 have h1 := zK h0 h0 (p := ((3, 36), sLat)) wLat
 exact h1
noncomputable def v3 (x0 x1 x2 x3 x4 : Int) (x5 : (List (List (PKt × Int)))) (x6 x7 x8 x9 A B C D E F G I J K L : Int) (M : Bool) (N : Bool) (O : Int) : Option Bool := (cond (ok (v11 x0 x1 x2 x3 x4 x5 x6 x7 x8 x9 A B C D E)) (cond (!val (v11 x0 x1 x2 x3 x4 x5 x6 x7 x8 x9 A B C D E)) (some (true)) (cond (ok (Lat O (val v10) x0 x1 x2 x3 x4 x5 x6 x7 x8 x9 A B C D E F G I J K L M N)) (some (val (Lat O (val v10) x0 x1 x2 x3 x4 x5 x6 x7 x8 x9 A B C D E F G I J K L M N))) none)) none)
theorem ev3 (x0 x1 x2 x3 x4 : Int) (x5 : (List (List (PKt × Int)))) (x6 x7 x8 x9 A B C D E F G I J K L : Int) (M : Bool) (N : Bool) (O : Int) : zJ Try.prog (tn54 3) (TM.evF Try.prog (tn54) dOk 40) dOk 40 3 [.agg [I4 (x0), I4 (x1), I4 (x2), I4 (x3), I4 (x4), .d 51 (.list 55 QDy) (x5), I4 (x6), I4 (x7), I4 (x8), I4 (x9), I4 (A), I4 (B), I4 (C), I4 (D), .int .u64 (E)], .agg [I4 (F), I4 (G), I4 (I), I4 (J), I4 (K), I4 (L), .bool (M), .bool (N)], .sc (I4 O)] [] = (v3 x0 x1 x2 x3 x4 x5 x6 x7 x8 x9 A B C D E F G I J K L M N O).bind fun r => some ([.sc (.bool (r))], []) := by
 refine Eq.trans (b := (cond (ok (v11 x0 x1 x2 x3 x4 x5 x6 x7 x8 x9 A B C D E)) (cond (!val (v11 x0 x1 x2 x3 x4 x5 x6 x7 x8 x9 A B C D E)) (some ([.sc (.bool (true))], [])) (cond (ok (Lat O (val v10) x0 x1 x2 x3 x4 x5 x6 x7 x8 x9 A B C D E F G I J K L M N)) (some ([.sc (.bool (val (Lat O (val v10) x0 x1 x2 x3 x4 x5 x6 x7 x8 x9 A B C D E F G I J K L M N)))], [])) none)) none)) (by kernel_rfl) ?_
 unfold v3
 refine zc ?_ ?_
 refine zc ?_ ?_
 rfl
 refine zc ?_ ?_
 rfl
 rfl
 rfl
noncomputable def sv3 : OrcS := fun al H => dC al fun y1 l2 => dA y1 fun y3 => dK y3 fun x0 l4 => dK l4 fun x1 l5 => dK l5 fun x2 l6 => dK l6 fun x3 l7 => dK l7 fun x4 l8 => dC l8 fun y9 l10 => dD 51 (.list 55 QDy) y9 fun x5 => dK l10 fun x6 l11 => dK l11 fun x7 l12 => dK l12 fun x8 l13 => dK l13 fun x9 l14 => dK l14 fun A l15 => dK l15 fun B l16 => dK l16 fun C l17 => dK l17 fun D l18 => dCI .u64 l18 fun E l19 => dE l19 <| dC l2 fun y20 l21 => dA y20 fun y22 => dK y22 fun F l23 => dK l23 fun G l24 => dK l24 fun I l25 => dK l25 fun J l26 => dK l26 fun K l27 => dK l27 fun L l28 => dC l28 fun y29 l30 => zA y29 fun M => dC l30 fun y31 l32 => zA y31 fun N => dE l32 <| dC l21 fun y33 l34 => dS y33 fun y35 => yX .i64 y35 fun O => dE l34 <| dE H <|  some [(ok (v3 x0 x1 x2 x3 x4 x5 x6 x7 x8 x9 A B C D E F G I J K L M N O), [.sc (.bool ((val (v3 x0 x1 x2 x3 x4 x5 x6 x7 x8 x9 A B C D E F G I J K L M N O))))], [])]
noncomputable def o55 : OrcT := (3, sv3) :: o54
noncomputable def t55 : TellT := t54
noncomputable abbrev tn55 : FuncId → TAn := zj base o55 t55
end Go.Proofs.Ythbinbcgjhnijaa
