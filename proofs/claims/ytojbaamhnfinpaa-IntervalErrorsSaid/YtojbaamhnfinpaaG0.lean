/- What the machines are told of each function. Written by a program of ours. -/
import Derived.Test.YtojbaamhnfinpaaB5
import Derived.Test.YtojbaamhnfinpaaProg
import Derived.KernelRfl
set_option linter.all false
set_option linter.constructorNameAsVariable false
set_option linter.unnecessarySimpa false
set_option linter.unusedSimpArgs false
set_option linter.unusedVariables false
set_option maxRecDepth 1000000
set_option linter.unusedVariables false
set_option maxHeartbeats 4000000
namespace Go.Proofs.Ytojbaamhnfinpaa
open Go Go.AM Go.TM Go.Proofs
def base : List (FuncId × TAn) := [
  (2, { a := { loc := [], keep := [] }, own := false, crow := [], cuts := [], live := [], coe := [], nt := 1 }),
  (3, { a := { loc := [2, 3, 6, 8], keep := [] }, own := false, crow := [], cuts := [], live := [], coe := [], nt := 202 }),
  (4, { a := { loc := [4, 5, 12, 136, 140], keep := [] }, own := false, crow := [], cuts := [], live := [], coe := [], nt := 177 }),
  (5, { a := { loc := [2, 3, 8, 27, 31, 91, 93, 101, 103, 140, 147], keep := [(0, [2, 3, 5, 6, 35], [2, 3]), (3, [2, 3, 5, 6, 7, 8, 10, 11, 35, 95, 96, 97], [2, 3, 8]), (5, [2, 3, 5, 6, 7, 8, 10, 11, 13, 35, 95, 96, 97, 105, 106, 107], [2, 3, 8])] }, own := false, crow := [], cuts := [], live := [(0, [2, 3, 5, 6, 35], [2, 3]), (2, [5], []), (3, [4], []), (24, [2, 3, 5, 6, 7, 8, 10, 11, 35, 95, 96, 97], [2, 3, 8]), (26, [2, 3, 5, 6, 10, 11, 35], [2, 3]), (27, [4], []), (40, [2, 3, 5, 6, 7, 8, 10, 11, 13, 35, 95, 96, 97, 105, 106, 107], [2, 3, 8]), (42, [2, 3, 5, 6, 7, 8, 10, 11, 35, 95, 96, 97], [2, 3, 8]), (43, [4], [])], coe := [(24, [((0, 95, 0), 3, true)]), (40, [((0, 95, 0), 3, true), ((0, 105, 0), 3, true)])], nt := 162 }),
  (6, { a := { loc := [6, 7, 14, 15, 16, 18], keep := [] }, own := false, crow := [], cuts := [], live := [], coe := [], nt := 220 }),
  (7, { a := { loc := [2, 3, 6, 8, 10, 12, 14, 16], keep := [] }, own := false, crow := [], cuts := [], live := [], coe := [], nt := 108 }),
  (8, { a := { loc := [4, 5, 10, 12, 14], keep := [] }, own := false, crow := [], cuts := [], live := [], coe := [], nt := 166 }),
  (9, { a := { loc := [2, 3, 7, 9, 11, 13, 15, 106, 108, 113, 115, 120, 122, 127, 129, 134, 136, 141, 143, 149, 151, 157, 159, 164, 168], keep := [], keepR := [(0, [2, 3]), (1, [2, 3, 5]), (2, [2, 3, 5, 6]), (3, [2, 3, 5, 6, 7, 8]), (4, [2, 3, 5, 6, 7, 8, 9, 10]), (5, [2, 3, 5, 6, 7, 8, 9, 10, 11, 12]), (6, [2, 3, 5, 6, 7, 8, 9, 10, 11, 12, 13, 14]), (7, [2, 3, 5, 6, 7, 8, 9, 10, 11, 12, 13, 14, 15, 16]), (8, [2, 3, 5, 7, 8, 9, 10, 11, 12, 13, 14, 15, 16, 59]), (9, [4]), (10, [2, 3, 5, 7, 8, 10, 11, 12, 14, 16, 17]), (11, [2, 3, 5, 7, 8, 10, 11, 12, 14, 16, 17, 18]), (12, [3, 5, 7, 8, 10, 11, 12, 14, 16, 17, 18, 19]), (13, [5, 7, 8, 10, 11, 12, 14, 16, 17, 18, 19, 20]), (14, [4])] }, own := false, crow := [], cuts := [3, 10, 11, 12, 13, 14], live := [(28, [2, 3, 5, 6], [2, 3]), (29, [4], []), (30, [4], []), (31, [4], []), (84, [2, 3, 5, 7, 8, 10, 11, 12, 14, 16], [2, 3, 7, 11]), (85, [4], []), (86, [4], []), (87, [4], []), (92, [2, 3, 5, 7, 8, 10, 11, 12, 14, 16, 17], [2, 3, 7, 11]), (93, [4], []), (94, [4], []), (95, [4], []), (100, [2, 3, 5, 7, 8, 10, 11, 12, 14, 16, 17, 18], [2, 3, 7, 11]), (101, [4], []), (102, [4], []), (103, [4], []), (108, [3, 5, 7, 8, 10, 11, 12, 14, 16, 17, 18, 19], [3, 7, 11]), (109, [4], []), (110, [4], []), (111, [4], []), (116, [5, 7, 8, 10, 11, 12, 14, 16, 17, 18, 19, 20], [7, 11]), (117, [4], []), (118, [4], []), (119, [4], [])], coe := [], nt := 239 }),
  (10, { a := { loc := [1, 3, 5, 7, 9, 11, 13, 15, 17, 19], keep := [] }, own := false, crow := [], cuts := [], live := [], coe := [], nt := 158 }),
  (11, { a := { loc := [2, 3, 4], keep := [] }, own := false, crow := [], cuts := [], live := [], coe := [], nt := 11 }),
  (12, { a := { loc := [2, 3, 4, 15, 17, 20, 22], keep := [] }, own := false, crow := [], cuts := [], live := [], coe := [], nt := 29 }),
  (13, { a := { loc := [2, 3, 4], keep := [] }, own := false, crow := [], cuts := [], live := [], coe := [], nt := 11 }),
  (14, { a := { loc := [2, 3, 4, 15, 17, 20, 22], keep := [] }, own := false, crow := [], cuts := [], live := [], coe := [], nt := 29 }),
  (15, { a := { loc := [2, 3, 4], keep := [] }, own := false, crow := [], cuts := [], live := [], coe := [], nt := 11 }),
  (16, { a := { loc := [2, 3, 4, 15, 17, 20, 22, 25, 27, 30, 32], keep := [] }, own := false, crow := [], cuts := [], live := [], coe := [], nt := 39 }),
  (17, { a := { loc := [2, 3, 4], keep := [] }, own := false, crow := [], cuts := [], live := [], coe := [], nt := 11 }),
  (18, { a := { loc := [2, 3, 4, 18, 20, 23, 25, 28, 30, 33, 35], keep := [] }, own := false, crow := [], cuts := [], live := [], coe := [], nt := 39 }),
  (19, { a := { loc := [2, 3, 4], keep := [] }, own := false, crow := [], cuts := [], live := [], coe := [], nt := 11 }),
  (20, { a := { loc := [2, 3, 4, 18, 21, 25, 28, 32, 35, 39, 42], keep := [] }, own := false, crow := [], cuts := [], live := [], coe := [], nt := 47 }),
  (21, { a := { loc := [2, 3, 4], keep := [] }, own := false, crow := [], cuts := [], live := [], coe := [], nt := 11 }),
  (22, { a := { loc := [2, 3, 4, 15, 17, 20, 22], keep := [] }, own := false, crow := [], cuts := [], live := [], coe := [], nt := 26 }),
  (23, { a := { loc := [2, 3, 4], keep := [] }, own := false, crow := [], cuts := [], live := [], coe := [], nt := 11 }),
  (24, { a := { loc := [2, 3, 4, 15, 17, 20, 22], keep := [] }, own := false, crow := [], cuts := [], live := [], coe := [], nt := 26 }),
  (25, { a := { loc := [2, 3, 4, 15, 17, 19, 21], keep := [] }, own := false, crow := [], cuts := [], live := [], coe := [], nt := 25 }),
  (26, { a := { loc := [2, 3, 4, 15, 17, 20, 22], keep := [] }, own := false, crow := [], cuts := [], live := [], coe := [], nt := 26 }),
  (27, { a := { loc := [1, 3, 7, 12, 14], keep := [] }, own := false, crow := [], cuts := [], live := [], coe := [], nt := 18 }),
  (28, { a := { loc := [1, 3, 7, 12, 14], keep := [] }, own := false, crow := [], cuts := [], live := [], coe := [], nt := 18 }),
  (29, { a := { loc := [2, 5, 8, 10], keep := [] }, own := false, crow := [], cuts := [], live := [], coe := [], nt := 18 }),
  (30, { a := { loc := [3, 11, 17], keep := [] }, own := false, crow := [], cuts := [], live := [], coe := [], nt := 21 }),
  (31, { a := { loc := [], keep := [] }, own := false, crow := [], cuts := [], live := [], coe := [], nt := 32 }),
  (32, { a := { loc := [4], keep := [] }, own := false, crow := [], cuts := [], live := [], coe := [], nt := 8 }),
  (33, { a := { loc := [4, 6, 15, 17, 22, 24], keep := [] }, own := false, crow := [], cuts := [], live := [], coe := [], nt := 29 }),
  (34, { a := { loc := [1, 2, 3, 6], keep := [] }, own := false, crow := [], cuts := [], live := [], coe := [], nt := 10 }),
  (35, { a := { loc := [], keep := [] }, own := false, crow := [], cuts := [], live := [], coe := [], nt := 9 }),
  (36, { a := { loc := [], keep := [] }, own := false, crow := [], cuts := [], live := [], coe := [], nt := 18 }),
  (37, { a := { loc := [3, 4, 6, 9], keep := [] }, own := false, crow := [], cuts := [], live := [], coe := [], nt := 30 }),
  (38, { a := { loc := [], keep := [] }, own := false, crow := [], cuts := [], live := [], coe := [], nt := 8 }),
  (39, { a := { loc := [1, 2, 4, 9], keep := [] }, own := false, crow := [], cuts := [], live := [], coe := [], nt := 16 }),
  (40, { a := { loc := [], keep := [] }, own := false, crow := [], cuts := [], live := [], coe := [], nt := 8 }),
  (41, { a := { loc := [], keep := [] }, own := false, crow := [], cuts := [], live := [], coe := [], nt := 22 }),
  (42, { a := { loc := [8], keep := [] }, own := false, crow := [], cuts := [], live := [], coe := [], nt := 20 }),
  (43, { a := { loc := [3, 4, 6, 17, 21], keep := [] }, own := false, crow := [], cuts := [], live := [], coe := [], nt := 32 }),
  (44, { a := { loc := [], keep := [] }, own := false, crow := [], cuts := [], live := [], coe := [], nt := 26 }),
  (45, { a := { loc := [2, 6, 11], keep := [] }, own := false, crow := [], cuts := [], live := [], coe := [], nt := 15 }),
  (46, { a := { loc := [], keep := [] }, own := false, crow := [], cuts := [], live := [], coe := [], nt := 23 }),
  (47, { a := { loc := [], keep := [] }, own := false, crow := [], cuts := [], live := [], coe := [], nt := 10 }),
  (48, { a := { loc := [], keep := [] }, own := false, crow := [], cuts := [], live := [], coe := [], nt := 8 }),
  (49, { a := { loc := [], keep := [] }, own := false, crow := [], cuts := [], live := [], coe := [], nt := 8 }),
  (50, { a := { loc := [2], keep := [] }, own := false, crow := [], cuts := [], live := [], coe := [], nt := 8 }),
  (51, { a := { loc := [], keep := [] }, own := false, crow := [], cuts := [], live := [], coe := [], nt := 9 }),
  (52, { a := { loc := [], keep := [] }, own := false, crow := [], cuts := [], live := [], coe := [], nt := 7 }),
  (53, { a := { loc := [3, 4, 6, 8, 10, 14, 16, 20, 22, 26, 28], keep := [] }, own := false, crow := [], cuts := [], live := [], coe := [], nt := 32 }),
  (54, { a := { loc := [], keep := [(0, [0, 3, 4], [])] }, own := false, crow := [], cuts := [], live := [(0, [0, 3, 4], []), (2, [3], []), (3, [2], [])], coe := [(0, [((0, 0, 0), 3, true)])], nt := 25 }),
  (55, { a := { loc := [], keep := [(0, [0, 3, 4], [])] }, own := false, crow := [], cuts := [], live := [(0, [0, 3, 4], []), (2, [3], []), (3, [2], [])], coe := [(0, [((0, 0, 0), 3, true)])], nt := 25 })]
def o0 : OrcT := []
def t0 : TellT := []
abbrev tn0 : FuncId → TAn := mkTn base o0 t0
theorem names : plainNames Try.prog = true := by kernel_rfl
theorem mixed : Try.prog.follows .mixedOrders = true := by kernel_rfl
theorem ok0 : TnOk Try.prog tn0 (mkA base) dOk := tn_nil
end Go.Proofs.Ytojbaamhnfinpaa
set_option maxRecDepth 1000000
set_option linter.unusedVariables false
set_option maxHeartbeats 4000000
namespace Go.Proofs.Ytojbaamhnfinpaa
open Go Go.AM Go.TM Go.Proofs
/-- interval.value -/
def v51 (x0 : Int) : Option Bool := (cond (decide (x0 ≥ (-1000000000000 : Int))) (some (decide (x0 ≤ (1000000000000 : Int)))) (some (false)))
theorem ev51 (x0 : Int) : fnBody Try.prog (mkTn base o0 t0 51) (TM.evF Try.prog (mkTn base o0 t0) dOk 40) dOk 40 51 [.sc (.int .i64 (x0))] [] = (v51 x0).bind fun r => some ([.sc (.bool (r))], []) := by
  have h : fnBody Try.prog (mkTn base o0 t0 51) (TM.evF Try.prog (mkTn base o0 t0) dOk 40) dOk 40 51 [.sc (.int .i64 (x0))] [] = (cond (decide (x0 ≥ (-1000000000000 : Int))) (some ([.sc (.bool (decide (x0 ≤ (1000000000000 : Int))))], [])) (some ([.sc (.bool (false))], []))) := by kernel_rfl
  rw [h]
  unfold v51
  cases (decide (x0 ≥ (-1000000000000 : Int))) with
  | true =>
    rfl
  | false =>
    rfl
def sv51 : OrcS := fun al H => match al, H with
  | [.sc (.int .i64 (x0))], [] => some (ok (v51 x0), [.sc (.bool ((val (v51 x0))))], [])
  | _, _ => none
theorem wv51 : NewOrc Try.prog dOk base o0 t0 (51, sv51) := by
  intro al H q hq hq1
  have hq : sv51 al H = some q := hq
  unfold sv51 at hq
  split at hq
  · cases hq
    exact ⟨41, (ev51 _).trans (ok_bind hq1)⟩
  · cases hq
def o1 : OrcT := (51, sv51) :: o0
def t1 : TellT := t0
abbrev tn1 : FuncId → TAn := mkTn base o1 t1
theorem ok1 : TnOk Try.prog tn1 (mkA base) dOk := by
  have h0 : TnOk Try.prog (mkTn base o0 t0) (mkA base) dOk := ok0
  have h1 := tn_orc h0 h0 (p := (51, sv51)) wv51
  exact h1
end Go.Proofs.Ytojbaamhnfinpaa
set_option maxRecDepth 1000000
set_option linter.unusedVariables false
set_option maxHeartbeats 4000000
namespace Go.Proofs.Ytojbaamhnfinpaa
open Go Go.AM Go.TM Go.Proofs
/-- interval.Valid -/
def v27 (x0 : Int) (x1 : Int) : Option Bool := (cond (ok (v51 x0)) (cond (val (v51 x0)) (cond (ok (v51 x1)) (cond (val (v51 x1)) (some (decide (x0 ≤ x1))) (some (false))) none) (some (false))) none)
theorem ev27 (x0 : Int) (x1 : Int) : fnBody Try.prog (mkTn base o1 t1 27) (TM.evF Try.prog (mkTn base o1 t1) dOk 40) dOk 40 27 [.agg [.int .i64 (x0), .int .i64 (x1)]] [] = (v27 x0 x1).bind fun r => some ([.sc (.bool (r))], []) := by
  have h : fnBody Try.prog (mkTn base o1 t1 27) (TM.evF Try.prog (mkTn base o1 t1) dOk 40) dOk 40 27 [.agg [.int .i64 (x0), .int .i64 (x1)]] [] = (cond (ok (v51 x0)) (cond (val (v51 x0)) (cond (ok (v51 x1)) (cond (val (v51 x1)) (some ([.sc (.bool (decide (x0 ≤ x1)))], [])) (some ([.sc (.bool (false))], []))) none) (some ([.sc (.bool (false))], []))) none) := by kernel_rfl
  rw [h]
  unfold v27
  cases (ok (v51 x0)) with
  | true =>
    cases (val (v51 x0)) with
    | true =>
      cases (ok (v51 x1)) with
      | true =>
        cases (val (v51 x1)) with
        | true =>
          rfl
        | false =>
          rfl
      | false =>
        rfl
    | false =>
      rfl
  | false =>
    rfl
def sv27 : OrcS := fun al H => match al, H with
  | [.agg [.int .i64 (x0), .int .i64 (x1)]], [] => some (ok (v27 x0 x1), [.sc (.bool ((val (v27 x0 x1))))], [])
  | _, _ => none
theorem wv27 : NewOrc Try.prog dOk base o1 t1 (27, sv27) := by
  intro al H q hq hq1
  have hq : sv27 al H = some q := hq
  unfold sv27 at hq
  split at hq
  · cases hq
    exact ⟨41, (ev27 _ _).trans (ok_bind hq1)⟩
  · cases hq
def o2 : OrcT := (27, sv27) :: o1
def t2 : TellT := t1
abbrev tn2 : FuncId → TAn := mkTn base o2 t2
theorem ok2 : TnOk Try.prog tn2 (mkA base) dOk := by
  have h0 : TnOk Try.prog (mkTn base o1 t1) (mkA base) dOk := ok1
  have h1 := tn_orc h0 h0 (p := (27, sv27)) wv27
  exact h1
end Go.Proofs.Ytojbaamhnfinpaa
set_option maxRecDepth 1000000
set_option linter.unusedVariables false
set_option maxHeartbeats 4000000
namespace Go.Proofs.Ytojbaamhnfinpaa
open Go Go.AM Go.TM Go.Proofs
/-- interval.Add$1 -/
def v38 (x0 : Int) (x1 : Int) : Option Int := (some (IntKind.wrap IntKind.i64 (x0 + x1)))
theorem ev38 (x0 : Int) (x1 : Int) : fnBody Try.prog (mkTn base o2 t2 38) (TM.evF Try.prog (mkTn base o2 t2) dOk 40) dOk 40 38 [.sc (.int .i64 (x0)), .sc (.int .i64 (x1))] [] = (v38 x0 x1).bind fun r => some ([.sc (.int .i64 (r))], []) := by
  have h : fnBody Try.prog (mkTn base o2 t2 38) (TM.evF Try.prog (mkTn base o2 t2) dOk 40) dOk 40 38 [.sc (.int .i64 (x0)), .sc (.int .i64 (x1))] [] = (some ([.sc (.int .i64 (IntKind.wrap IntKind.i64 (x0 + x1)))], [])) := by kernel_rfl
  rw [h]
  unfold v38
  rfl
def sv38 : OrcS := fun al H => match al, H with
  | [.sc (.int .i64 (x0)), .sc (.int .i64 (x1))], [] => some (ok (v38 x0 x1), [.sc (.int .i64 ((val (v38 x0 x1))))], [])
  | _, _ => none
theorem wv38 : NewOrc Try.prog dOk base o2 t2 (38, sv38) := by
  intro al H q hq hq1
  have hq : sv38 al H = some q := hq
  unfold sv38 at hq
  split at hq
  · cases hq
    exact ⟨41, (ev38 _ _).trans (ok_bind hq1)⟩
  · cases hq
/-- interval.Sub$1 -/
def v40 (x0 : Int) (x1 : Int) : Option Int := (some (IntKind.wrap IntKind.i64 (x0 - x1)))
theorem ev40 (x0 : Int) (x1 : Int) : fnBody Try.prog (mkTn base o2 t2 40) (TM.evF Try.prog (mkTn base o2 t2) dOk 40) dOk 40 40 [.sc (.int .i64 (x0)), .sc (.int .i64 (x1))] [] = (v40 x0 x1).bind fun r => some ([.sc (.int .i64 (r))], []) := by
  have h : fnBody Try.prog (mkTn base o2 t2 40) (TM.evF Try.prog (mkTn base o2 t2) dOk 40) dOk 40 40 [.sc (.int .i64 (x0)), .sc (.int .i64 (x1))] [] = (some ([.sc (.int .i64 (IntKind.wrap IntKind.i64 (x0 - x1)))], [])) := by kernel_rfl
  rw [h]
  unfold v40
  rfl
def sv40 : OrcS := fun al H => match al, H with
  | [.sc (.int .i64 (x0)), .sc (.int .i64 (x1))], [] => some (ok (v40 x0 x1), [.sc (.int .i64 ((val (v40 x0 x1))))], [])
  | _, _ => none
theorem wv40 : NewOrc Try.prog dOk base o2 t2 (40, sv40) := by
  intro al H q hq hq1
  have hq : sv40 al H = some q := hq
  unfold sv40 at hq
  split at hq
  · cases hq
    exact ⟨41, (ev40 _ _).trans (ok_bind hq1)⟩
  · cases hq
/-- interval.product -/
def v41 (x0 : Int) (x1 : Int) : Option Int := (cond (x0 == (0 : Int)) (some (IntKind.wrap IntKind.i64 (x0 * x1))) (cond (decide (max x0 (IntKind.wrap IntKind.i64 ((0 : Int) - x0)) ≠ (0 : Int))) (cond (decide (max x1 (IntKind.wrap IntKind.i64 ((0 : Int) - x1)) ≤ IntKind.wrap IntKind.i64 (Int.tdiv (1000000000000 : Int) (max x0 (IntKind.wrap IntKind.i64 ((0 : Int) - x0)))))) (some (IntKind.wrap IntKind.i64 (x0 * x1))) (some ((2000000000000 : Int)))) none))
theorem ev41 (x0 : Int) (x1 : Int) : fnBody Try.prog (mkTn base o2 t2 41) (TM.evF Try.prog (mkTn base o2 t2) dOk 40) dOk 40 41 [.sc (.int .i64 (x0)), .sc (.int .i64 (x1))] [] = (v41 x0 x1).bind fun r => some ([.sc (.int .i64 (r))], []) := by
  have h : fnBody Try.prog (mkTn base o2 t2 41) (TM.evF Try.prog (mkTn base o2 t2) dOk 40) dOk 40 41 [.sc (.int .i64 (x0)), .sc (.int .i64 (x1))] [] = (cond (x0 == (0 : Int)) (some ([.sc (.int .i64 (IntKind.wrap IntKind.i64 (x0 * x1)))], [])) (cond (decide (max x0 (IntKind.wrap IntKind.i64 ((0 : Int) - x0)) ≠ (0 : Int))) (cond (decide (max x1 (IntKind.wrap IntKind.i64 ((0 : Int) - x1)) ≤ IntKind.wrap IntKind.i64 (Int.tdiv (1000000000000 : Int) (max x0 (IntKind.wrap IntKind.i64 ((0 : Int) - x0)))))) (some ([.sc (.int .i64 (IntKind.wrap IntKind.i64 (x0 * x1)))], [])) (some ([.sc (.int .i64 ((2000000000000 : Int)))], []))) none)) := by kernel_rfl
  rw [h]
  unfold v41
  cases (x0 == (0 : Int)) with
  | true =>
    rfl
  | false =>
    cases (decide (max x0 (IntKind.wrap IntKind.i64 ((0 : Int) - x0)) ≠ (0 : Int))) with
    | true =>
      cases (decide (max x1 (IntKind.wrap IntKind.i64 ((0 : Int) - x1)) ≤ IntKind.wrap IntKind.i64 (Int.tdiv (1000000000000 : Int) (max x0 (IntKind.wrap IntKind.i64 ((0 : Int) - x0)))))) with
      | true =>
        rfl
      | false =>
        rfl
    | false =>
      rfl
def sv41 : OrcS := fun al H => match al, H with
  | [.sc (.int .i64 (x0)), .sc (.int .i64 (x1))], [] => some (ok (v41 x0 x1), [.sc (.int .i64 ((val (v41 x0 x1))))], [])
  | _, _ => none
theorem wv41 : NewOrc Try.prog dOk base o2 t2 (41, sv41) := by
  intro al H q hq hq1
  have hq : sv41 al H = some q := hq
  unfold sv41 at hq
  split at hq
  · cases hq
    exact ⟨41, (ev41 _ _).trans (ok_bind hq1)⟩
  · cases hq
def o3 : OrcT := (38, sv38) :: (40, sv40) :: (41, sv41) :: o2
def t3 : TellT := t2
abbrev tn3 : FuncId → TAn := mkTn base o3 t3
theorem ok3 : TnOk Try.prog tn3 (mkA base) dOk := by
  have h0 : TnOk Try.prog (mkTn base o2 t2) (mkA base) dOk := ok2
  have h1 := tn_orc h0 h0 (p := (41, sv41)) wv41
  have h2 := tn_orc h0 h1 (p := (40, sv40)) wv40
  have h3 := tn_orc h0 h2 (p := (38, sv38)) wv38
  exact h3
end Go.Proofs.Ytojbaamhnfinpaa
set_option maxRecDepth 1000000
set_option linter.unusedVariables false
set_option maxHeartbeats 4000000
namespace Go.Proofs.Ytojbaamhnfinpaa
open Go Go.AM Go.TM Go.Proofs
/-- interval.each[int] -/
def v53 (x0 : Int) (x1 : Int) (x2 : Int) (x3 : Int) : Option (Int × Int × Int × Int) := (some (val (v38 x0 x2), val (v38 x0 x3), val (v38 x1 x2), val (v38 x1 x3)))
theorem ev53 (x0 : Int) (x1 : Int) (x2 : Int) (x3 : Int) : fnBody Try.prog (mkTn base o3 t3 53) (TM.evF Try.prog (mkTn base o3 t3) dOk 40) dOk 40 53 [.agg [.int .i64 (x0), .int .i64 (x1)], .agg [.int .i64 (x2), .int .i64 (x3)], .sc (.fn 38 0 [] [])] [] = (v53 x0 x1 x2 x3).bind fun r => some ([.agg [.int .i64 (r.1), .int .i64 (r.2.1), .int .i64 (r.2.2.1), .int .i64 (r.2.2.2)]], []) := by
  have h : fnBody Try.prog (mkTn base o3 t3 53) (TM.evF Try.prog (mkTn base o3 t3) dOk 40) dOk 40 53 [.agg [.int .i64 (x0), .int .i64 (x1)], .agg [.int .i64 (x2), .int .i64 (x3)], .sc (.fn 38 0 [] [])] [] = (some ([.agg [.int .i64 (val (v38 x0 x2)), .int .i64 (val (v38 x0 x3)), .int .i64 (val (v38 x1 x2)), .int .i64 (val (v38 x1 x3))]], [])) := by kernel_rfl
  rw [h]
  unfold v53
  rfl
def sv53 : OrcS := fun al H => match al, H with
  | [.agg [.int .i64 (x0), .int .i64 (x1)], .agg [.int .i64 (x2), .int .i64 (x3)], .sc (.fn 38 0 [] [])], [] => some (ok (v53 x0 x1 x2 x3), [.agg [.int .i64 ((val (v53 x0 x1 x2 x3)).1), .int .i64 ((val (v53 x0 x1 x2 x3)).2.1), .int .i64 ((val (v53 x0 x1 x2 x3)).2.2.1), .int .i64 ((val (v53 x0 x1 x2 x3)).2.2.2)]], [])
  | _, _ => none
theorem wv53 : NewOrc Try.prog dOk base o3 t3 (53, sv53) := by
  intro al H q hq hq1
  have hq : sv53 al H = some q := hq
  unfold sv53 at hq
  split at hq
  · cases hq
    exact ⟨41, (ev53 _ _ _ _).trans (ok_bind hq1)⟩
  · cases hq
/-- interval.each[int] -/
def v53_1 (x0 : Int) (x1 : Int) (x2 : Int) (x3 : Int) : Option (Int × Int × Int × Int) := (some (val (v40 x0 x2), val (v40 x0 x3), val (v40 x1 x2), val (v40 x1 x3)))
theorem ev53_1 (x0 : Int) (x1 : Int) (x2 : Int) (x3 : Int) : fnBody Try.prog (mkTn base o3 t3 53) (TM.evF Try.prog (mkTn base o3 t3) dOk 40) dOk 40 53 [.agg [.int .i64 (x0), .int .i64 (x1)], .agg [.int .i64 (x2), .int .i64 (x3)], .sc (.fn 40 0 [] [])] [] = (v53_1 x0 x1 x2 x3).bind fun r => some ([.agg [.int .i64 (r.1), .int .i64 (r.2.1), .int .i64 (r.2.2.1), .int .i64 (r.2.2.2)]], []) := by
  have h : fnBody Try.prog (mkTn base o3 t3 53) (TM.evF Try.prog (mkTn base o3 t3) dOk 40) dOk 40 53 [.agg [.int .i64 (x0), .int .i64 (x1)], .agg [.int .i64 (x2), .int .i64 (x3)], .sc (.fn 40 0 [] [])] [] = (some ([.agg [.int .i64 (val (v40 x0 x2)), .int .i64 (val (v40 x0 x3)), .int .i64 (val (v40 x1 x2)), .int .i64 (val (v40 x1 x3))]], [])) := by kernel_rfl
  rw [h]
  unfold v53_1
  rfl
def sv53_1 : OrcS := fun al H => match al, H with
  | [.agg [.int .i64 (x0), .int .i64 (x1)], .agg [.int .i64 (x2), .int .i64 (x3)], .sc (.fn 40 0 [] [])], [] => some (ok (v53_1 x0 x1 x2 x3), [.agg [.int .i64 ((val (v53_1 x0 x1 x2 x3)).1), .int .i64 ((val (v53_1 x0 x1 x2 x3)).2.1), .int .i64 ((val (v53_1 x0 x1 x2 x3)).2.2.1), .int .i64 ((val (v53_1 x0 x1 x2 x3)).2.2.2)]], [])
  | _, _ => none
theorem wv53_1 : NewOrc Try.prog dOk base o3 t3 (53, sv53_1) := by
  intro al H q hq hq1
  have hq : sv53_1 al H = some q := hq
  unfold sv53_1 at hq
  split at hq
  · cases hq
    exact ⟨41, (ev53_1 _ _ _ _).trans (ok_bind hq1)⟩
  · cases hq
/-- interval.each[int] -/
def v53_2 (x0 : Int) (x1 : Int) (x2 : Int) (x3 : Int) : Option (Int × Int × Int × Int) := (cond (ok (v41 x0 x2)) (cond (ok (v41 x0 x3)) (cond (ok (v41 x1 x2)) (cond (ok (v41 x1 x3)) (some (val (v41 x0 x2), val (v41 x0 x3), val (v41 x1 x2), val (v41 x1 x3))) none) none) none) none)
theorem ev53_2 (x0 : Int) (x1 : Int) (x2 : Int) (x3 : Int) : fnBody Try.prog (mkTn base o3 t3 53) (TM.evF Try.prog (mkTn base o3 t3) dOk 40) dOk 40 53 [.agg [.int .i64 (x0), .int .i64 (x1)], .agg [.int .i64 (x2), .int .i64 (x3)], .sc (.fn 41 0 [] [])] [] = (v53_2 x0 x1 x2 x3).bind fun r => some ([.agg [.int .i64 (r.1), .int .i64 (r.2.1), .int .i64 (r.2.2.1), .int .i64 (r.2.2.2)]], []) := by
  have h : fnBody Try.prog (mkTn base o3 t3 53) (TM.evF Try.prog (mkTn base o3 t3) dOk 40) dOk 40 53 [.agg [.int .i64 (x0), .int .i64 (x1)], .agg [.int .i64 (x2), .int .i64 (x3)], .sc (.fn 41 0 [] [])] [] = (cond (ok (v41 x0 x2)) (cond (ok (v41 x0 x3)) (cond (ok (v41 x1 x2)) (cond (ok (v41 x1 x3)) (some ([.agg [.int .i64 (val (v41 x0 x2)), .int .i64 (val (v41 x0 x3)), .int .i64 (val (v41 x1 x2)), .int .i64 (val (v41 x1 x3))]], [])) none) none) none) none) := by kernel_rfl
  rw [h]
  unfold v53_2
  cases (ok (v41 x0 x2)) with
  | true =>
    cases (ok (v41 x0 x3)) with
    | true =>
      cases (ok (v41 x1 x2)) with
      | true =>
        cases (ok (v41 x1 x3)) with
        | true =>
          rfl
        | false =>
          rfl
      | false =>
        rfl
    | false =>
      rfl
  | false =>
    rfl
def sv53_2 : OrcS := fun al H => match al, H with
  | [.agg [.int .i64 (x0), .int .i64 (x1)], .agg [.int .i64 (x2), .int .i64 (x3)], .sc (.fn 41 0 [] [])], [] => some (ok (v53_2 x0 x1 x2 x3), [.agg [.int .i64 ((val (v53_2 x0 x1 x2 x3)).1), .int .i64 ((val (v53_2 x0 x1 x2 x3)).2.1), .int .i64 ((val (v53_2 x0 x1 x2 x3)).2.2.1), .int .i64 ((val (v53_2 x0 x1 x2 x3)).2.2.2)]], [])
  | _, _ => none
theorem wv53_2 : NewOrc Try.prog dOk base o3 t3 (53, sv53_2) := by
  intro al H q hq hq1
  have hq : sv53_2 al H = some q := hq
  unfold sv53_2 at hq
  split at hq
  · cases hq
    exact ⟨41, (ev53_2 _ _ _ _).trans (ok_bind hq1)⟩
  · cases hq
/-- slices.Min[[]int,int]: the loop 0 -/
def L54_0_0 : Nat → (List Int) → Int → Int → Option Int
  | 0, _, _, _ => none
  | n + 1, x0, x1, x2 => (cond (decide (x2 < (↑(List.length x0) : Int))) (cond (decide ((0 : Int) ≤ x2)) (L54_0_0 n (x0) (min x1 (List.getD x0 (Int.toNat x2) (0 : Int))) (IntKind.wrap IntKind.i64 (x2 + (1 : Int)))) none) (some (x1)))
theorem qL54_0_0 (n : Nat) (x0 : (List Int)) (x1 : Int) (x2 : Int) : L54_0_0 (n + 1) x0 x1 x2 = (cond (decide (x2 < (↑(List.length x0) : Int))) (cond (decide ((0 : Int) ≤ x2)) (L54_0_0 n (x0) (min x1 (List.getD x0 (Int.toNat x2) (0 : Int))) (IntKind.wrap IntKind.i64 (x2 + (1 : Int)))) none) (some (x1))) := by rfl
def xL54_0_0 (x0 : (List Int)) (x1 : Int) (x2 : Int) : Int → Ex × CS := fun r => ((.exit 0), { sl := [(3, .v (.sc (.int .i64 (r))))], lo := [], h := [], n0 := 0 })
theorem bL54_0_0 (k : Nat) (cN : CS → Option (Ex × CS)) (cX : Ex → CS → Option (Ex × CS)) (x0 : (List Int)) (x1 : Int) (x2 : Int) : loopBody Try.prog (mkTn base o3 t3 54) (TM.evF Try.prog (mkTn base o3 t3) dOk (k + 40)) dOk (k + 40) (codeAt Try.prog (tn0 54) 54 0) 0 0 { sl := [(0, .v (.sc (.d 3 (.int .i64) (x0)))), (3, .v (.sc (.int .i64 (x1)))), (4, .v (.sc (.int .i64 (x2))))], lo := [], h := [], n0 := 0 } cN cX = (cond (decide (x2 < (↑(List.length x0) : Int))) (cond (decide ((0 : Int) ≤ x2)) (cond (decide (x2 < (↑(List.length x0) : Int))) (cN { sl := [(0, .v (.sc (.d 3 (.int .i64) (x0)))), (3, .v (.sc (.int .i64 (min x1 (List.getD x0 (Int.toNat x2) (0 : Int)))))), (4, .v (.sc (.int .i64 (IntKind.wrap IntKind.i64 (x2 + (1 : Int))))))], lo := [], h := [], n0 := 0 }) none) none) (cX (.exit 0) { sl := [(3, .v (.sc (.int .i64 (x1))))], lo := [], h := [], n0 := 0 })) := by kernel_rfl
theorem lL54_0_0 (k m : Nat) : ∀ (n : Nat) (x0 : (List Int)) (x1 : Int) (x2 : Int) (r : Int), L54_0_0 n x0 x1 x2 = some r → loopE Try.prog (mkTn base o3 t3 54) (TM.evF Try.prog (mkTn base o3 t3) dOk (k + 40)) dOk (k + 40) (codeAt Try.prog (tn0 54) 54 0) 0 0 (n + m) { sl := [(0, .v (.sc (.d 3 (.int .i64) (x0)))), (3, .v (.sc (.int .i64 (x1)))), (4, .v (.sc (.int .i64 (x2))))], lo := [], h := [], n0 := 0 } = some (xL54_0_0 x0 x1 x2 r) := by
  intro n
  induction n with
  | zero => intro _ _ _ r h; cases h
  | succ n ih =>
    intro x0 x1 x2 r
    rw [show n + 1 + m = n + m + 1 by omega, loop_step, bL54_0_0, qL54_0_0]
    cases (decide (x2 < (↑(List.length x0) : Int))) with
    | true =>
      cases (decide ((0 : Int) ≤ x2)) with
      | true =>
        exact ih _ _ _ r
      | false =>
        intro h; cases h
    | false =>
      intro h; cases h; rfl
def sL54_0_0 : TellS := fun S => match S with
  | { sl := [(0, .v (.sc (.d 3 (.int .i64) (x0)))), (3, .v (.sc (.int .i64 (x1)))), (4, .v (.sc (.int .i64 (x2))))], lo := [], h := [], n0 := 0 } => some [(ok (L54_0_0 FU x0 x1 x2), (.exit 0), { sl := [(3, .v (.sc (.int .i64 ((val (L54_0_0 FU x0 x1 x2))))))], lo := [], h := [], n0 := 0 })]
  | _ => none
theorem wL54_0_0 : NewTell Try.prog dOk base o3 t3 ((54, 0), sL54_0_0) := by
  refine ⟨.loop (codeAt Try.prog (tn0 54) 54 0), 0, by kernel_rfl, ?_⟩
  intro S alts e S' h1 h2
  have h1 : sL54_0_0 S = some alts := h1
  unfold sL54_0_0 at h1
  split at h1
  · cases h1
    obtain ⟨hc0, rfl, rfl⟩ := pick_one h2
    exact ⟨FU + 40, (evPiece_loop rfl).trans (lL54_0_0 FU 40 FU _ _ _ _ (ok_val hc0))⟩
  · cases h1
/-- interval.down -/
def v44 (x0 : Int) (x1 : Int) : Option Int := (cond (decide (x1 ≠ (0 : Int))) (cond (IntKind.wrap IntKind.i64 (IntKind.wrap IntKind.i64 (Int.tdiv x0 x1) * x1) != x0) (cond (!decide (x0 < (0 : Int)) == decide (x1 < (0 : Int))) (some (IntKind.wrap IntKind.i64 (IntKind.wrap IntKind.i64 (Int.tdiv x0 x1) - (1 : Int)))) (some (IntKind.wrap IntKind.i64 (Int.tdiv x0 x1)))) (some (IntKind.wrap IntKind.i64 (Int.tdiv x0 x1)))) none)
theorem ev44 (x0 : Int) (x1 : Int) : fnBody Try.prog (mkTn base o3 t3 44) (TM.evF Try.prog (mkTn base o3 t3) dOk 40) dOk 40 44 [.sc (.int .i64 (x0)), .sc (.int .i64 (x1))] [] = (v44 x0 x1).bind fun r => some ([.sc (.int .i64 (r))], []) := by
  have h : fnBody Try.prog (mkTn base o3 t3 44) (TM.evF Try.prog (mkTn base o3 t3) dOk 40) dOk 40 44 [.sc (.int .i64 (x0)), .sc (.int .i64 (x1))] [] = (cond (decide (x1 ≠ (0 : Int))) (cond (IntKind.wrap IntKind.i64 (IntKind.wrap IntKind.i64 (Int.tdiv x0 x1) * x1) != x0) (cond (!decide (x0 < (0 : Int)) == decide (x1 < (0 : Int))) (some ([.sc (.int .i64 (IntKind.wrap IntKind.i64 (IntKind.wrap IntKind.i64 (Int.tdiv x0 x1) - (1 : Int))))], [])) (cond (decide (x1 ≠ (0 : Int))) (some ([.sc (.int .i64 (IntKind.wrap IntKind.i64 (Int.tdiv x0 x1)))], [])) none)) (cond (decide (x1 ≠ (0 : Int))) (some ([.sc (.int .i64 (IntKind.wrap IntKind.i64 (Int.tdiv x0 x1)))], [])) none)) none) := by kernel_rfl
  rw [h]
  unfold v44
  cases (decide (x1 ≠ (0 : Int))) with
  | true =>
    cases (IntKind.wrap IntKind.i64 (IntKind.wrap IntKind.i64 (Int.tdiv x0 x1) * x1) != x0) with
    | true =>
      cases (!decide (x0 < (0 : Int)) == decide (x1 < (0 : Int))) with
      | true =>
        rfl
      | false =>
        rfl
    | false =>
      rfl
  | false =>
    rfl
def sv44 : OrcS := fun al H => match al, H with
  | [.sc (.int .i64 (x0)), .sc (.int .i64 (x1))], [] => some (ok (v44 x0 x1), [.sc (.int .i64 ((val (v44 x0 x1))))], [])
  | _, _ => none
theorem wv44 : NewOrc Try.prog dOk base o3 t3 (44, sv44) := by
  intro al H q hq hq1
  have hq : sv44 al H = some q := hq
  unfold sv44 at hq
  split at hq
  · cases hq
    exact ⟨41, (ev44 _ _).trans (ok_bind hq1)⟩
  · cases hq
def o4 : OrcT := (53, sv53) :: (53, sv53_1) :: (53, sv53_2) :: (44, sv44) :: o3
def t4 : TellT := ((54, 0), sL54_0_0) :: t3
abbrev tn4 : FuncId → TAn := mkTn base o4 t4
theorem ok4 : TnOk Try.prog tn4 (mkA base) dOk := by
  have h0 : TnOk Try.prog (mkTn base o3 t3) (mkA base) dOk := ok3
  have h1 := tn_orc h0 h0 (p := (44, sv44)) wv44
  have h2 := tn_orc h0 h1 (p := (53, sv53_2)) wv53_2
  have h3 := tn_orc h0 h2 (p := (53, sv53_1)) wv53_1
  have h4 := tn_orc h0 h3 (p := (53, sv53)) wv53
  have h5 := tn_tell h0 h4 (p := ((54, 0), sL54_0_0)) wL54_0_0
  exact h5
end Go.Proofs.Ytojbaamhnfinpaa
set_option maxRecDepth 1000000
set_option linter.unusedVariables false
set_option maxHeartbeats 4000000
namespace Go.Proofs.Ytojbaamhnfinpaa
open Go Go.AM Go.TM Go.Proofs
/-- slices.Min[[]int,int] -/
def v54 (x0 : (List Int)) : Option Int := (cond (decide ((↑(List.length x0) : Int) < (1 : Int))) none (cond (decide ((0 : Int) < (↑(List.length x0) : Int))) (cond (ok (L54_0_0 FU x0 (List.getD x0 (Int.toNat (0 : Int)) (0 : Int)) (1 : Int))) (some (val (L54_0_0 FU x0 (List.getD x0 (Int.toNat (0 : Int)) (0 : Int)) (1 : Int)))) none) none))
theorem ev54 (x0 : (List Int)) : fnBody Try.prog (mkTn base o4 t4 54) (TM.evF Try.prog (mkTn base o4 t4) dOk 40) dOk 40 54 [.sc (.d 3 (.int .i64) (x0))] [] = (v54 x0).bind fun r => some ([.sc (.int .i64 (r))], []) := by
  have h : fnBody Try.prog (mkTn base o4 t4 54) (TM.evF Try.prog (mkTn base o4 t4) dOk 40) dOk 40 54 [.sc (.d 3 (.int .i64) (x0))] [] = (cond (decide ((↑(List.length x0) : Int) < (1 : Int))) none (cond (decide ((0 : Int) < (↑(List.length x0) : Int))) (cond (ok (L54_0_0 FU x0 (List.getD x0 (Int.toNat (0 : Int)) (0 : Int)) (1 : Int))) (some ([.sc (.int .i64 (val (L54_0_0 FU x0 (List.getD x0 (Int.toNat (0 : Int)) (0 : Int)) (1 : Int))))], [])) none) none)) := by kernel_rfl
  rw [h]
  unfold v54
  cases (decide ((↑(List.length x0) : Int) < (1 : Int))) with
  | true =>
    rfl
  | false =>
    cases (decide ((0 : Int) < (↑(List.length x0) : Int))) with
    | true =>
      cases (ok (L54_0_0 FU x0 (List.getD x0 (Int.toNat (0 : Int)) (0 : Int)) (1 : Int))) with
      | true =>
        rfl
      | false =>
        rfl
    | false =>
      rfl
def sv54 : OrcS := fun al H => match al, H with
  | [.sc (.d 3 (.int .i64) (x0))], [] => some (ok (v54 x0), [.sc (.int .i64 ((val (v54 x0))))], [])
  | _, _ => none
theorem wv54 : NewOrc Try.prog dOk base o4 t4 (54, sv54) := by
  intro al H q hq hq1
  have hq : sv54 al H = some q := hq
  unfold sv54 at hq
  split at hq
  · cases hq
    exact ⟨41, (ev54 _).trans (ok_bind hq1)⟩
  · cases hq
/-- interval.each[int] -/
def v53_3 (x0 : Int) (x1 : Int) (x2 : Int) (x3 : Int) : Option (Int × Int × Int × Int) := (cond (ok (v44 x0 x2)) (cond (ok (v44 x0 x3)) (cond (ok (v44 x1 x2)) (cond (ok (v44 x1 x3)) (some (val (v44 x0 x2), val (v44 x0 x3), val (v44 x1 x2), val (v44 x1 x3))) none) none) none) none)
theorem ev53_3 (x0 : Int) (x1 : Int) (x2 : Int) (x3 : Int) : fnBody Try.prog (mkTn base o4 t4 53) (TM.evF Try.prog (mkTn base o4 t4) dOk 40) dOk 40 53 [.agg [.int .i64 (x0), .int .i64 (x1)], .agg [.int .i64 (x2), .int .i64 (x3)], .sc (.fn 44 0 [] [])] [] = (v53_3 x0 x1 x2 x3).bind fun r => some ([.agg [.int .i64 (r.1), .int .i64 (r.2.1), .int .i64 (r.2.2.1), .int .i64 (r.2.2.2)]], []) := by
  have h : fnBody Try.prog (mkTn base o4 t4 53) (TM.evF Try.prog (mkTn base o4 t4) dOk 40) dOk 40 53 [.agg [.int .i64 (x0), .int .i64 (x1)], .agg [.int .i64 (x2), .int .i64 (x3)], .sc (.fn 44 0 [] [])] [] = (cond (ok (v44 x0 x2)) (cond (ok (v44 x0 x3)) (cond (ok (v44 x1 x2)) (cond (ok (v44 x1 x3)) (some ([.agg [.int .i64 (val (v44 x0 x2)), .int .i64 (val (v44 x0 x3)), .int .i64 (val (v44 x1 x2)), .int .i64 (val (v44 x1 x3))]], [])) none) none) none) none) := by kernel_rfl
  rw [h]
  unfold v53_3
  cases (ok (v44 x0 x2)) with
  | true =>
    cases (ok (v44 x0 x3)) with
    | true =>
      cases (ok (v44 x1 x2)) with
      | true =>
        cases (ok (v44 x1 x3)) with
        | true =>
          rfl
        | false =>
          rfl
      | false =>
        rfl
    | false =>
      rfl
  | false =>
    rfl
def sv53_3 : OrcS := fun al H => match al, H with
  | [.agg [.int .i64 (x0), .int .i64 (x1)], .agg [.int .i64 (x2), .int .i64 (x3)], .sc (.fn 44 0 [] [])], [] => some (ok (v53_3 x0 x1 x2 x3), [.agg [.int .i64 ((val (v53_3 x0 x1 x2 x3)).1), .int .i64 ((val (v53_3 x0 x1 x2 x3)).2.1), .int .i64 ((val (v53_3 x0 x1 x2 x3)).2.2.1), .int .i64 ((val (v53_3 x0 x1 x2 x3)).2.2.2)]], [])
  | _, _ => none
theorem wv53_3 : NewOrc Try.prog dOk base o4 t4 (53, sv53_3) := by
  intro al H q hq hq1
  have hq : sv53_3 al H = some q := hq
  unfold sv53_3 at hq
  split at hq
  · cases hq
    exact ⟨41, (ev53_3 _ _ _ _).trans (ok_bind hq1)⟩
  · cases hq
def o5 : OrcT := (54, sv54) :: (53, sv53_3) :: o4
def t5 : TellT := t4
abbrev tn5 : FuncId → TAn := mkTn base o5 t5
theorem ok5 : TnOk Try.prog tn5 (mkA base) dOk := by
  have h0 : TnOk Try.prog (mkTn base o4 t4) (mkA base) dOk := ok4
  have h1 := tn_orc h0 h0 (p := (53, sv53_3)) wv53_3
  have h2 := tn_orc h0 h1 (p := (54, sv54)) wv54
  exact h2
end Go.Proofs.Ytojbaamhnfinpaa
set_option maxRecDepth 1000000
set_option linter.unusedVariables false
set_option maxHeartbeats 4000000
namespace Go.Proofs.Ytojbaamhnfinpaa
open Go Go.AM Go.TM Go.Proofs
/-- slices.Max[[]int,int]: the loop 0 -/
def L55_0_0 : Nat → (List Int) → Int → Int → Option Int
  | 0, _, _, _ => none
  | n + 1, x0, x1, x2 => (cond (decide (x2 < (↑(List.length x0) : Int))) (cond (decide ((0 : Int) ≤ x2)) (L55_0_0 n (x0) (max x1 (List.getD x0 (Int.toNat x2) (0 : Int))) (IntKind.wrap IntKind.i64 (x2 + (1 : Int)))) none) (some (x1)))
theorem qL55_0_0 (n : Nat) (x0 : (List Int)) (x1 : Int) (x2 : Int) : L55_0_0 (n + 1) x0 x1 x2 = (cond (decide (x2 < (↑(List.length x0) : Int))) (cond (decide ((0 : Int) ≤ x2)) (L55_0_0 n (x0) (max x1 (List.getD x0 (Int.toNat x2) (0 : Int))) (IntKind.wrap IntKind.i64 (x2 + (1 : Int)))) none) (some (x1))) := by rfl
def xL55_0_0 (x0 : (List Int)) (x1 : Int) (x2 : Int) : Int → Ex × CS := fun r => ((.exit 0), { sl := [(3, .v (.sc (.int .i64 (r))))], lo := [], h := [], n0 := 0 })
theorem bL55_0_0 (k : Nat) (cN : CS → Option (Ex × CS)) (cX : Ex → CS → Option (Ex × CS)) (x0 : (List Int)) (x1 : Int) (x2 : Int) : loopBody Try.prog (mkTn base o5 t5 55) (TM.evF Try.prog (mkTn base o5 t5) dOk (k + 40)) dOk (k + 40) (codeAt Try.prog (tn0 55) 55 0) 0 0 { sl := [(0, .v (.sc (.d 3 (.int .i64) (x0)))), (3, .v (.sc (.int .i64 (x1)))), (4, .v (.sc (.int .i64 (x2))))], lo := [], h := [], n0 := 0 } cN cX = (cond (decide (x2 < (↑(List.length x0) : Int))) (cond (decide ((0 : Int) ≤ x2)) (cond (decide (x2 < (↑(List.length x0) : Int))) (cN { sl := [(0, .v (.sc (.d 3 (.int .i64) (x0)))), (3, .v (.sc (.int .i64 (max x1 (List.getD x0 (Int.toNat x2) (0 : Int)))))), (4, .v (.sc (.int .i64 (IntKind.wrap IntKind.i64 (x2 + (1 : Int))))))], lo := [], h := [], n0 := 0 }) none) none) (cX (.exit 0) { sl := [(3, .v (.sc (.int .i64 (x1))))], lo := [], h := [], n0 := 0 })) := by kernel_rfl
theorem lL55_0_0 (k m : Nat) : ∀ (n : Nat) (x0 : (List Int)) (x1 : Int) (x2 : Int) (r : Int), L55_0_0 n x0 x1 x2 = some r → loopE Try.prog (mkTn base o5 t5 55) (TM.evF Try.prog (mkTn base o5 t5) dOk (k + 40)) dOk (k + 40) (codeAt Try.prog (tn0 55) 55 0) 0 0 (n + m) { sl := [(0, .v (.sc (.d 3 (.int .i64) (x0)))), (3, .v (.sc (.int .i64 (x1)))), (4, .v (.sc (.int .i64 (x2))))], lo := [], h := [], n0 := 0 } = some (xL55_0_0 x0 x1 x2 r) := by
  intro n
  induction n with
  | zero => intro _ _ _ r h; cases h
  | succ n ih =>
    intro x0 x1 x2 r
    rw [show n + 1 + m = n + m + 1 by omega, loop_step, bL55_0_0, qL55_0_0]
    cases (decide (x2 < (↑(List.length x0) : Int))) with
    | true =>
      cases (decide ((0 : Int) ≤ x2)) with
      | true =>
        exact ih _ _ _ r
      | false =>
        intro h; cases h
    | false =>
      intro h; cases h; rfl
def sL55_0_0 : TellS := fun S => match S with
  | { sl := [(0, .v (.sc (.d 3 (.int .i64) (x0)))), (3, .v (.sc (.int .i64 (x1)))), (4, .v (.sc (.int .i64 (x2))))], lo := [], h := [], n0 := 0 } => some [(ok (L55_0_0 FU x0 x1 x2), (.exit 0), { sl := [(3, .v (.sc (.int .i64 ((val (L55_0_0 FU x0 x1 x2))))))], lo := [], h := [], n0 := 0 })]
  | _ => none
theorem wL55_0_0 : NewTell Try.prog dOk base o5 t5 ((55, 0), sL55_0_0) := by
  refine ⟨.loop (codeAt Try.prog (tn0 55) 55 0), 0, by kernel_rfl, ?_⟩
  intro S alts e S' h1 h2
  have h1 : sL55_0_0 S = some alts := h1
  unfold sL55_0_0 at h1
  split at h1
  · cases h1
    obtain ⟨hc0, rfl, rfl⟩ := pick_one h2
    exact ⟨FU + 40, (evPiece_loop rfl).trans (lL55_0_0 FU 40 FU _ _ _ _ (ok_val hc0))⟩
  · cases h1
def o6 : OrcT := o5
def t6 : TellT := ((55, 0), sL55_0_0) :: t5
abbrev tn6 : FuncId → TAn := mkTn base o6 t6
theorem ok6 : TnOk Try.prog tn6 (mkA base) dOk := by
  have h0 : TnOk Try.prog (mkTn base o5 t5) (mkA base) dOk := ok5
  have h1 := tn_tell h0 h0 (p := ((55, 0), sL55_0_0)) wL55_0_0
  exact h1
end Go.Proofs.Ytojbaamhnfinpaa
set_option maxRecDepth 1000000
set_option linter.unusedVariables false
set_option maxHeartbeats 4000000
namespace Go.Proofs.Ytojbaamhnfinpaa
open Go Go.AM Go.TM Go.Proofs
/-- slices.Max[[]int,int] -/
def v55 (x0 : (List Int)) : Option Int := (cond (decide ((↑(List.length x0) : Int) < (1 : Int))) none (cond (decide ((0 : Int) < (↑(List.length x0) : Int))) (cond (ok (L55_0_0 FU x0 (List.getD x0 (Int.toNat (0 : Int)) (0 : Int)) (1 : Int))) (some (val (L55_0_0 FU x0 (List.getD x0 (Int.toNat (0 : Int)) (0 : Int)) (1 : Int)))) none) none))
theorem ev55 (x0 : (List Int)) : fnBody Try.prog (mkTn base o6 t6 55) (TM.evF Try.prog (mkTn base o6 t6) dOk 40) dOk 40 55 [.sc (.d 3 (.int .i64) (x0))] [] = (v55 x0).bind fun r => some ([.sc (.int .i64 (r))], []) := by
  have h : fnBody Try.prog (mkTn base o6 t6 55) (TM.evF Try.prog (mkTn base o6 t6) dOk 40) dOk 40 55 [.sc (.d 3 (.int .i64) (x0))] [] = (cond (decide ((↑(List.length x0) : Int) < (1 : Int))) none (cond (decide ((0 : Int) < (↑(List.length x0) : Int))) (cond (ok (L55_0_0 FU x0 (List.getD x0 (Int.toNat (0 : Int)) (0 : Int)) (1 : Int))) (some ([.sc (.int .i64 (val (L55_0_0 FU x0 (List.getD x0 (Int.toNat (0 : Int)) (0 : Int)) (1 : Int))))], [])) none) none)) := by kernel_rfl
  rw [h]
  unfold v55
  cases (decide ((↑(List.length x0) : Int) < (1 : Int))) with
  | true =>
    rfl
  | false =>
    cases (decide ((0 : Int) < (↑(List.length x0) : Int))) with
    | true =>
      cases (ok (L55_0_0 FU x0 (List.getD x0 (Int.toNat (0 : Int)) (0 : Int)) (1 : Int))) with
      | true =>
        rfl
      | false =>
        rfl
    | false =>
      rfl
def sv55 : OrcS := fun al H => match al, H with
  | [.sc (.d 3 (.int .i64) (x0))], [] => some (ok (v55 x0), [.sc (.int .i64 ((val (v55 x0))))], [])
  | _, _ => none
theorem wv55 : NewOrc Try.prog dOk base o6 t6 (55, sv55) := by
  intro al H q hq hq1
  have hq : sv55 al H = some q := hq
  unfold sv55 at hq
  split at hq
  · cases hq
    exact ⟨41, (ev55 _).trans (ok_bind hq1)⟩
  · cases hq
def o7 : OrcT := (55, sv55) :: o6
def t7 : TellT := t6
abbrev tn7 : FuncId → TAn := mkTn base o7 t7
theorem ok7 : TnOk Try.prog tn7 (mkA base) dOk := by
  have h0 : TnOk Try.prog (mkTn base o6 t6) (mkA base) dOk := ok6
  have h1 := tn_orc h0 h0 (p := (55, sv55)) wv55
  exact h1
end Go.Proofs.Ytojbaamhnfinpaa
set_option maxRecDepth 1000000
set_option linter.unusedVariables false
set_option maxHeartbeats 4000000
namespace Go.Proofs.Ytojbaamhnfinpaa
open Go Go.AM Go.TM Go.Proofs
/-- interval.least -/
def v50 (x0 : (List Int)) : Option (Int × Int) := (cond (ok (v54 x0)) (cond (ok (v55 x0)) (some (val (v54 x0), val (v55 x0))) none) none)
theorem ev50 (x0 : (List Int)) : fnBody Try.prog (mkTn base o7 t7 50) (TM.evF Try.prog (mkTn base o7 t7) dOk 40) dOk 40 50 [.sc (.d 3 (.int .i64) (x0))] [] = (v50 x0).bind fun r => some ([.agg [.int .i64 (r.1), .int .i64 (r.2)]], []) := by
  have h : fnBody Try.prog (mkTn base o7 t7 50) (TM.evF Try.prog (mkTn base o7 t7) dOk 40) dOk 40 50 [.sc (.d 3 (.int .i64) (x0))] [] = (cond (ok (v54 x0)) (cond (ok (v55 x0)) (some ([.agg [.int .i64 (val (v54 x0)), .int .i64 (val (v55 x0))]], [])) none) none) := by kernel_rfl
  rw [h]
  unfold v50
  cases (ok (v54 x0)) with
  | true =>
    cases (ok (v55 x0)) with
    | true =>
      rfl
    | false =>
      rfl
  | false =>
    rfl
def sv50 : OrcS := fun al H => match al, H with
  | [.sc (.d 3 (.int .i64) (x0))], [] => some (ok (v50 x0), [.agg [.int .i64 ((val (v50 x0)).1), .int .i64 ((val (v50 x0)).2)]], [])
  | _, _ => none
theorem wv50 : NewOrc Try.prog dOk base o7 t7 (50, sv50) := by
  intro al H q hq hq1
  have hq : sv50 al H = some q := hq
  unfold sv50 at hq
  split at hq
  · cases hq
    exact ⟨41, (ev50 _).trans (ok_bind hq1)⟩
  · cases hq
def o8 : OrcT := (50, sv50) :: o7
def t8 : TellT := t7
abbrev tn8 : FuncId → TAn := mkTn base o8 t8
theorem ok8 : TnOk Try.prog tn8 (mkA base) dOk := by
  have h0 : TnOk Try.prog (mkTn base o7 t7) (mkA base) dOk := ok7
  have h1 := tn_orc h0 h0 (p := (50, sv50)) wv50
  exact h1
end Go.Proofs.Ytojbaamhnfinpaa
set_option maxRecDepth 1000000
set_option linter.unusedVariables false
set_option maxHeartbeats 4000000
namespace Go.Proofs.Ytojbaamhnfinpaa
open Go Go.AM Go.TM Go.Proofs
/-- interval.Join -/
def v25 (x0 : Int) (x1 : Int) (x2 : Int) (x3 : Int) : Option (Int × Int × Int) := (cond (ok (v27 x0 x1)) (cond (!val (v27 x0 x1)) (some ((0 : Int), (0 : Int), (1 : Int))) (cond (ok (v27 x2 x3)) (cond (!val (v27 x2 x3)) (some ((0 : Int), (0 : Int), (1 : Int))) (some (Prod.fst (val (v50 [x0, x1, x2, x3])), Prod.snd (val (v50 [x0, x1, x2, x3])), (0 : Int)))) none)) none)
theorem ev25 (x0 : Int) (x1 : Int) (x2 : Int) (x3 : Int) : fnBody Try.prog (mkTn base o8 t8 25) (TM.evF Try.prog (mkTn base o8 t8) dOk 40) dOk 40 25 [.agg [.int .i64 (x0), .int .i64 (x1)], .agg [.int .i64 (x2), .int .i64 (x3)]] [] = (v25 x0 x1 x2 x3).bind fun r => some ([.agg [.int .i64 (r.1), .int .i64 (r.2.1)], .sc (.int .i64 (r.2.2))], []) := by
  have h : fnBody Try.prog (mkTn base o8 t8 25) (TM.evF Try.prog (mkTn base o8 t8) dOk 40) dOk 40 25 [.agg [.int .i64 (x0), .int .i64 (x1)], .agg [.int .i64 (x2), .int .i64 (x3)]] [] = (cond (ok (v27 x0 x1)) (cond (!val (v27 x0 x1)) (some ([.agg [.int .i64 ((0 : Int)), .int .i64 ((0 : Int))], .sc (.int .i64 ((1 : Int)))], [])) (cond (ok (v27 x2 x3)) (cond (!val (v27 x2 x3)) (some ([.agg [.int .i64 ((0 : Int)), .int .i64 ((0 : Int))], .sc (.int .i64 ((1 : Int)))], [])) (some ([.agg [.int .i64 (Prod.fst (val (v50 [x0, x1, x2, x3]))), .int .i64 (Prod.snd (val (v50 [x0, x1, x2, x3])))], .sc (.int .i64 ((0 : Int)))], []))) none)) none) := by kernel_rfl
  rw [h]
  unfold v25
  cases (ok (v27 x0 x1)) with
  | true =>
    cases (!val (v27 x0 x1)) with
    | true =>
      rfl
    | false =>
      cases (ok (v27 x2 x3)) with
      | true =>
        cases (!val (v27 x2 x3)) with
        | true =>
          rfl
        | false =>
          rfl
      | false =>
        rfl
  | false =>
    rfl
def sv25 : OrcS := fun al H => match al, H with
  | [.agg [.int .i64 (x0), .int .i64 (x1)], .agg [.int .i64 (x2), .int .i64 (x3)]], [] => some (ok (v25 x0 x1 x2 x3), [.agg [.int .i64 ((val (v25 x0 x1 x2 x3)).1), .int .i64 ((val (v25 x0 x1 x2 x3)).2.1)], .sc (.int .i64 ((val (v25 x0 x1 x2 x3)).2.2))], [])
  | _, _ => none
theorem wv25 : NewOrc Try.prog dOk base o8 t8 (25, sv25) := by
  intro al H q hq hq1
  have hq : sv25 al H = some q := hq
  unfold sv25 at hq
  split at hq
  · cases hq
    exact ⟨41, (ev25 _ _ _ _).trans (ok_bind hq1)⟩
  · cases hq
/-- interval.of -/
def v37 (x0 : Int) (x1 : Int) (x2 : Int) (x3 : Int) : Option (Int × Int × Int) := (cond (ok (v27 x0 x1)) (cond (!val (v27 x0 x1)) (some ((0 : Int), (0 : Int), (1 : Int))) (cond (ok (v27 x2 x3)) (cond (!val (v27 x2 x3)) (some ((0 : Int), (0 : Int), (1 : Int))) (cond (ok (v27 (Prod.fst (val (v50 [Prod.fst (val (v53 x0 x1 x2 x3)), Prod.fst (Prod.snd (val (v53 x0 x1 x2 x3))), Prod.fst (Prod.snd (Prod.snd (val (v53 x0 x1 x2 x3)))), Prod.snd (Prod.snd (Prod.snd (val (v53 x0 x1 x2 x3))))]))) (Prod.snd (val (v50 [Prod.fst (val (v53 x0 x1 x2 x3)), Prod.fst (Prod.snd (val (v53 x0 x1 x2 x3))), Prod.fst (Prod.snd (Prod.snd (val (v53 x0 x1 x2 x3)))), Prod.snd (Prod.snd (Prod.snd (val (v53 x0 x1 x2 x3))))]))))) (cond (!val (v27 (Prod.fst (val (v50 [Prod.fst (val (v53 x0 x1 x2 x3)), Prod.fst (Prod.snd (val (v53 x0 x1 x2 x3))), Prod.fst (Prod.snd (Prod.snd (val (v53 x0 x1 x2 x3)))), Prod.snd (Prod.snd (Prod.snd (val (v53 x0 x1 x2 x3))))]))) (Prod.snd (val (v50 [Prod.fst (val (v53 x0 x1 x2 x3)), Prod.fst (Prod.snd (val (v53 x0 x1 x2 x3))), Prod.fst (Prod.snd (Prod.snd (val (v53 x0 x1 x2 x3)))), Prod.snd (Prod.snd (Prod.snd (val (v53 x0 x1 x2 x3))))]))))) (some ((0 : Int), (0 : Int), (3 : Int))) (some (Prod.fst (val (v50 [Prod.fst (val (v53 x0 x1 x2 x3)), Prod.fst (Prod.snd (val (v53 x0 x1 x2 x3))), Prod.fst (Prod.snd (Prod.snd (val (v53 x0 x1 x2 x3)))), Prod.snd (Prod.snd (Prod.snd (val (v53 x0 x1 x2 x3))))])), Prod.snd (val (v50 [Prod.fst (val (v53 x0 x1 x2 x3)), Prod.fst (Prod.snd (val (v53 x0 x1 x2 x3))), Prod.fst (Prod.snd (Prod.snd (val (v53 x0 x1 x2 x3)))), Prod.snd (Prod.snd (Prod.snd (val (v53 x0 x1 x2 x3))))])), (0 : Int)))) none)) none)) none)
theorem ev37 (x0 : Int) (x1 : Int) (x2 : Int) (x3 : Int) : fnBody Try.prog (mkTn base o8 t8 37) (TM.evF Try.prog (mkTn base o8 t8) dOk 40) dOk 40 37 [.agg [.int .i64 (x0), .int .i64 (x1)], .agg [.int .i64 (x2), .int .i64 (x3)], .sc (.fn 38 0 [] [])] [] = (v37 x0 x1 x2 x3).bind fun r => some ([.agg [.int .i64 (r.1), .int .i64 (r.2.1)], .sc (.int .i64 (r.2.2))], []) := by
  have h : fnBody Try.prog (mkTn base o8 t8 37) (TM.evF Try.prog (mkTn base o8 t8) dOk 40) dOk 40 37 [.agg [.int .i64 (x0), .int .i64 (x1)], .agg [.int .i64 (x2), .int .i64 (x3)], .sc (.fn 38 0 [] [])] [] = (cond (ok (v27 x0 x1)) (cond (!val (v27 x0 x1)) (some ([.agg [.int .i64 ((0 : Int)), .int .i64 ((0 : Int))], .sc (.int .i64 ((1 : Int)))], [])) (cond (ok (v27 x2 x3)) (cond (!val (v27 x2 x3)) (some ([.agg [.int .i64 ((0 : Int)), .int .i64 ((0 : Int))], .sc (.int .i64 ((1 : Int)))], [])) (cond (ok (v27 (Prod.fst (val (v50 [Prod.fst (val (v53 x0 x1 x2 x3)), Prod.fst (Prod.snd (val (v53 x0 x1 x2 x3))), Prod.fst (Prod.snd (Prod.snd (val (v53 x0 x1 x2 x3)))), Prod.snd (Prod.snd (Prod.snd (val (v53 x0 x1 x2 x3))))]))) (Prod.snd (val (v50 [Prod.fst (val (v53 x0 x1 x2 x3)), Prod.fst (Prod.snd (val (v53 x0 x1 x2 x3))), Prod.fst (Prod.snd (Prod.snd (val (v53 x0 x1 x2 x3)))), Prod.snd (Prod.snd (Prod.snd (val (v53 x0 x1 x2 x3))))]))))) (cond (!val (v27 (Prod.fst (val (v50 [Prod.fst (val (v53 x0 x1 x2 x3)), Prod.fst (Prod.snd (val (v53 x0 x1 x2 x3))), Prod.fst (Prod.snd (Prod.snd (val (v53 x0 x1 x2 x3)))), Prod.snd (Prod.snd (Prod.snd (val (v53 x0 x1 x2 x3))))]))) (Prod.snd (val (v50 [Prod.fst (val (v53 x0 x1 x2 x3)), Prod.fst (Prod.snd (val (v53 x0 x1 x2 x3))), Prod.fst (Prod.snd (Prod.snd (val (v53 x0 x1 x2 x3)))), Prod.snd (Prod.snd (Prod.snd (val (v53 x0 x1 x2 x3))))]))))) (some ([.agg [.int .i64 ((0 : Int)), .int .i64 ((0 : Int))], .sc (.int .i64 ((3 : Int)))], [])) (some ([.agg [.int .i64 (Prod.fst (val (v50 [Prod.fst (val (v53 x0 x1 x2 x3)), Prod.fst (Prod.snd (val (v53 x0 x1 x2 x3))), Prod.fst (Prod.snd (Prod.snd (val (v53 x0 x1 x2 x3)))), Prod.snd (Prod.snd (Prod.snd (val (v53 x0 x1 x2 x3))))]))), .int .i64 (Prod.snd (val (v50 [Prod.fst (val (v53 x0 x1 x2 x3)), Prod.fst (Prod.snd (val (v53 x0 x1 x2 x3))), Prod.fst (Prod.snd (Prod.snd (val (v53 x0 x1 x2 x3)))), Prod.snd (Prod.snd (Prod.snd (val (v53 x0 x1 x2 x3))))])))], .sc (.int .i64 ((0 : Int)))], []))) none)) none)) none) := by kernel_rfl
  rw [h]
  unfold v37
  cases (ok (v27 x0 x1)) with
  | true =>
    cases (!val (v27 x0 x1)) with
    | true =>
      rfl
    | false =>
      cases (ok (v27 x2 x3)) with
      | true =>
        cases (!val (v27 x2 x3)) with
        | true =>
          rfl
        | false =>
          cases (ok (v27 (Prod.fst (val (v50 [Prod.fst (val (v53 x0 x1 x2 x3)), Prod.fst (Prod.snd (val (v53 x0 x1 x2 x3))), Prod.fst (Prod.snd (Prod.snd (val (v53 x0 x1 x2 x3)))), Prod.snd (Prod.snd (Prod.snd (val (v53 x0 x1 x2 x3))))]))) (Prod.snd (val (v50 [Prod.fst (val (v53 x0 x1 x2 x3)), Prod.fst (Prod.snd (val (v53 x0 x1 x2 x3))), Prod.fst (Prod.snd (Prod.snd (val (v53 x0 x1 x2 x3)))), Prod.snd (Prod.snd (Prod.snd (val (v53 x0 x1 x2 x3))))]))))) with
          | true =>
            cases (!val (v27 (Prod.fst (val (v50 [Prod.fst (val (v53 x0 x1 x2 x3)), Prod.fst (Prod.snd (val (v53 x0 x1 x2 x3))), Prod.fst (Prod.snd (Prod.snd (val (v53 x0 x1 x2 x3)))), Prod.snd (Prod.snd (Prod.snd (val (v53 x0 x1 x2 x3))))]))) (Prod.snd (val (v50 [Prod.fst (val (v53 x0 x1 x2 x3)), Prod.fst (Prod.snd (val (v53 x0 x1 x2 x3))), Prod.fst (Prod.snd (Prod.snd (val (v53 x0 x1 x2 x3)))), Prod.snd (Prod.snd (Prod.snd (val (v53 x0 x1 x2 x3))))]))))) with
            | true =>
              rfl
            | false =>
              rfl
          | false =>
            rfl
      | false =>
        rfl
  | false =>
    rfl
def sv37 : OrcS := fun al H => match al, H with
  | [.agg [.int .i64 (x0), .int .i64 (x1)], .agg [.int .i64 (x2), .int .i64 (x3)], .sc (.fn 38 0 [] [])], [] => some (ok (v37 x0 x1 x2 x3), [.agg [.int .i64 ((val (v37 x0 x1 x2 x3)).1), .int .i64 ((val (v37 x0 x1 x2 x3)).2.1)], .sc (.int .i64 ((val (v37 x0 x1 x2 x3)).2.2))], [])
  | _, _ => none
theorem wv37 : NewOrc Try.prog dOk base o8 t8 (37, sv37) := by
  intro al H q hq hq1
  have hq : sv37 al H = some q := hq
  unfold sv37 at hq
  split at hq
  · cases hq
    exact ⟨41, (ev37 _ _ _ _).trans (ok_bind hq1)⟩
  · cases hq
/-- interval.of -/
def v37_1 (x0 : Int) (x1 : Int) (x2 : Int) (x3 : Int) : Option (Int × Int × Int) := (cond (ok (v27 x0 x1)) (cond (!val (v27 x0 x1)) (some ((0 : Int), (0 : Int), (1 : Int))) (cond (ok (v27 x2 x3)) (cond (!val (v27 x2 x3)) (some ((0 : Int), (0 : Int), (1 : Int))) (cond (ok (v27 (Prod.fst (val (v50 [Prod.fst (val (v53_1 x0 x1 x2 x3)), Prod.fst (Prod.snd (val (v53_1 x0 x1 x2 x3))), Prod.fst (Prod.snd (Prod.snd (val (v53_1 x0 x1 x2 x3)))), Prod.snd (Prod.snd (Prod.snd (val (v53_1 x0 x1 x2 x3))))]))) (Prod.snd (val (v50 [Prod.fst (val (v53_1 x0 x1 x2 x3)), Prod.fst (Prod.snd (val (v53_1 x0 x1 x2 x3))), Prod.fst (Prod.snd (Prod.snd (val (v53_1 x0 x1 x2 x3)))), Prod.snd (Prod.snd (Prod.snd (val (v53_1 x0 x1 x2 x3))))]))))) (cond (!val (v27 (Prod.fst (val (v50 [Prod.fst (val (v53_1 x0 x1 x2 x3)), Prod.fst (Prod.snd (val (v53_1 x0 x1 x2 x3))), Prod.fst (Prod.snd (Prod.snd (val (v53_1 x0 x1 x2 x3)))), Prod.snd (Prod.snd (Prod.snd (val (v53_1 x0 x1 x2 x3))))]))) (Prod.snd (val (v50 [Prod.fst (val (v53_1 x0 x1 x2 x3)), Prod.fst (Prod.snd (val (v53_1 x0 x1 x2 x3))), Prod.fst (Prod.snd (Prod.snd (val (v53_1 x0 x1 x2 x3)))), Prod.snd (Prod.snd (Prod.snd (val (v53_1 x0 x1 x2 x3))))]))))) (some ((0 : Int), (0 : Int), (3 : Int))) (some (Prod.fst (val (v50 [Prod.fst (val (v53_1 x0 x1 x2 x3)), Prod.fst (Prod.snd (val (v53_1 x0 x1 x2 x3))), Prod.fst (Prod.snd (Prod.snd (val (v53_1 x0 x1 x2 x3)))), Prod.snd (Prod.snd (Prod.snd (val (v53_1 x0 x1 x2 x3))))])), Prod.snd (val (v50 [Prod.fst (val (v53_1 x0 x1 x2 x3)), Prod.fst (Prod.snd (val (v53_1 x0 x1 x2 x3))), Prod.fst (Prod.snd (Prod.snd (val (v53_1 x0 x1 x2 x3)))), Prod.snd (Prod.snd (Prod.snd (val (v53_1 x0 x1 x2 x3))))])), (0 : Int)))) none)) none)) none)
theorem ev37_1 (x0 : Int) (x1 : Int) (x2 : Int) (x3 : Int) : fnBody Try.prog (mkTn base o8 t8 37) (TM.evF Try.prog (mkTn base o8 t8) dOk 40) dOk 40 37 [.agg [.int .i64 (x0), .int .i64 (x1)], .agg [.int .i64 (x2), .int .i64 (x3)], .sc (.fn 40 0 [] [])] [] = (v37_1 x0 x1 x2 x3).bind fun r => some ([.agg [.int .i64 (r.1), .int .i64 (r.2.1)], .sc (.int .i64 (r.2.2))], []) := by
  have h : fnBody Try.prog (mkTn base o8 t8 37) (TM.evF Try.prog (mkTn base o8 t8) dOk 40) dOk 40 37 [.agg [.int .i64 (x0), .int .i64 (x1)], .agg [.int .i64 (x2), .int .i64 (x3)], .sc (.fn 40 0 [] [])] [] = (cond (ok (v27 x0 x1)) (cond (!val (v27 x0 x1)) (some ([.agg [.int .i64 ((0 : Int)), .int .i64 ((0 : Int))], .sc (.int .i64 ((1 : Int)))], [])) (cond (ok (v27 x2 x3)) (cond (!val (v27 x2 x3)) (some ([.agg [.int .i64 ((0 : Int)), .int .i64 ((0 : Int))], .sc (.int .i64 ((1 : Int)))], [])) (cond (ok (v27 (Prod.fst (val (v50 [Prod.fst (val (v53_1 x0 x1 x2 x3)), Prod.fst (Prod.snd (val (v53_1 x0 x1 x2 x3))), Prod.fst (Prod.snd (Prod.snd (val (v53_1 x0 x1 x2 x3)))), Prod.snd (Prod.snd (Prod.snd (val (v53_1 x0 x1 x2 x3))))]))) (Prod.snd (val (v50 [Prod.fst (val (v53_1 x0 x1 x2 x3)), Prod.fst (Prod.snd (val (v53_1 x0 x1 x2 x3))), Prod.fst (Prod.snd (Prod.snd (val (v53_1 x0 x1 x2 x3)))), Prod.snd (Prod.snd (Prod.snd (val (v53_1 x0 x1 x2 x3))))]))))) (cond (!val (v27 (Prod.fst (val (v50 [Prod.fst (val (v53_1 x0 x1 x2 x3)), Prod.fst (Prod.snd (val (v53_1 x0 x1 x2 x3))), Prod.fst (Prod.snd (Prod.snd (val (v53_1 x0 x1 x2 x3)))), Prod.snd (Prod.snd (Prod.snd (val (v53_1 x0 x1 x2 x3))))]))) (Prod.snd (val (v50 [Prod.fst (val (v53_1 x0 x1 x2 x3)), Prod.fst (Prod.snd (val (v53_1 x0 x1 x2 x3))), Prod.fst (Prod.snd (Prod.snd (val (v53_1 x0 x1 x2 x3)))), Prod.snd (Prod.snd (Prod.snd (val (v53_1 x0 x1 x2 x3))))]))))) (some ([.agg [.int .i64 ((0 : Int)), .int .i64 ((0 : Int))], .sc (.int .i64 ((3 : Int)))], [])) (some ([.agg [.int .i64 (Prod.fst (val (v50 [Prod.fst (val (v53_1 x0 x1 x2 x3)), Prod.fst (Prod.snd (val (v53_1 x0 x1 x2 x3))), Prod.fst (Prod.snd (Prod.snd (val (v53_1 x0 x1 x2 x3)))), Prod.snd (Prod.snd (Prod.snd (val (v53_1 x0 x1 x2 x3))))]))), .int .i64 (Prod.snd (val (v50 [Prod.fst (val (v53_1 x0 x1 x2 x3)), Prod.fst (Prod.snd (val (v53_1 x0 x1 x2 x3))), Prod.fst (Prod.snd (Prod.snd (val (v53_1 x0 x1 x2 x3)))), Prod.snd (Prod.snd (Prod.snd (val (v53_1 x0 x1 x2 x3))))])))], .sc (.int .i64 ((0 : Int)))], []))) none)) none)) none) := by kernel_rfl
  rw [h]
  unfold v37_1
  cases (ok (v27 x0 x1)) with
  | true =>
    cases (!val (v27 x0 x1)) with
    | true =>
      rfl
    | false =>
      cases (ok (v27 x2 x3)) with
      | true =>
        cases (!val (v27 x2 x3)) with
        | true =>
          rfl
        | false =>
          cases (ok (v27 (Prod.fst (val (v50 [Prod.fst (val (v53_1 x0 x1 x2 x3)), Prod.fst (Prod.snd (val (v53_1 x0 x1 x2 x3))), Prod.fst (Prod.snd (Prod.snd (val (v53_1 x0 x1 x2 x3)))), Prod.snd (Prod.snd (Prod.snd (val (v53_1 x0 x1 x2 x3))))]))) (Prod.snd (val (v50 [Prod.fst (val (v53_1 x0 x1 x2 x3)), Prod.fst (Prod.snd (val (v53_1 x0 x1 x2 x3))), Prod.fst (Prod.snd (Prod.snd (val (v53_1 x0 x1 x2 x3)))), Prod.snd (Prod.snd (Prod.snd (val (v53_1 x0 x1 x2 x3))))]))))) with
          | true =>
            cases (!val (v27 (Prod.fst (val (v50 [Prod.fst (val (v53_1 x0 x1 x2 x3)), Prod.fst (Prod.snd (val (v53_1 x0 x1 x2 x3))), Prod.fst (Prod.snd (Prod.snd (val (v53_1 x0 x1 x2 x3)))), Prod.snd (Prod.snd (Prod.snd (val (v53_1 x0 x1 x2 x3))))]))) (Prod.snd (val (v50 [Prod.fst (val (v53_1 x0 x1 x2 x3)), Prod.fst (Prod.snd (val (v53_1 x0 x1 x2 x3))), Prod.fst (Prod.snd (Prod.snd (val (v53_1 x0 x1 x2 x3)))), Prod.snd (Prod.snd (Prod.snd (val (v53_1 x0 x1 x2 x3))))]))))) with
            | true =>
              rfl
            | false =>
              rfl
          | false =>
            rfl
      | false =>
        rfl
  | false =>
    rfl
def sv37_1 : OrcS := fun al H => match al, H with
  | [.agg [.int .i64 (x0), .int .i64 (x1)], .agg [.int .i64 (x2), .int .i64 (x3)], .sc (.fn 40 0 [] [])], [] => some (ok (v37_1 x0 x1 x2 x3), [.agg [.int .i64 ((val (v37_1 x0 x1 x2 x3)).1), .int .i64 ((val (v37_1 x0 x1 x2 x3)).2.1)], .sc (.int .i64 ((val (v37_1 x0 x1 x2 x3)).2.2))], [])
  | _, _ => none
theorem wv37_1 : NewOrc Try.prog dOk base o8 t8 (37, sv37_1) := by
  intro al H q hq hq1
  have hq : sv37_1 al H = some q := hq
  unfold sv37_1 at hq
  split at hq
  · cases hq
    exact ⟨41, (ev37_1 _ _ _ _).trans (ok_bind hq1)⟩
  · cases hq
/-- interval.of -/
def v37_2 (x0 : Int) (x1 : Int) (x2 : Int) (x3 : Int) : Option (Int × Int × Int) := (cond (ok (v27 x0 x1)) (cond (!val (v27 x0 x1)) (some ((0 : Int), (0 : Int), (1 : Int))) (cond (ok (v27 x2 x3)) (cond (!val (v27 x2 x3)) (some ((0 : Int), (0 : Int), (1 : Int))) (cond (ok (v53_2 x0 x1 x2 x3)) (cond (ok (v27 (Prod.fst (val (v50 [Prod.fst (val (v53_2 x0 x1 x2 x3)), Prod.fst (Prod.snd (val (v53_2 x0 x1 x2 x3))), Prod.fst (Prod.snd (Prod.snd (val (v53_2 x0 x1 x2 x3)))), Prod.snd (Prod.snd (Prod.snd (val (v53_2 x0 x1 x2 x3))))]))) (Prod.snd (val (v50 [Prod.fst (val (v53_2 x0 x1 x2 x3)), Prod.fst (Prod.snd (val (v53_2 x0 x1 x2 x3))), Prod.fst (Prod.snd (Prod.snd (val (v53_2 x0 x1 x2 x3)))), Prod.snd (Prod.snd (Prod.snd (val (v53_2 x0 x1 x2 x3))))]))))) (cond (!val (v27 (Prod.fst (val (v50 [Prod.fst (val (v53_2 x0 x1 x2 x3)), Prod.fst (Prod.snd (val (v53_2 x0 x1 x2 x3))), Prod.fst (Prod.snd (Prod.snd (val (v53_2 x0 x1 x2 x3)))), Prod.snd (Prod.snd (Prod.snd (val (v53_2 x0 x1 x2 x3))))]))) (Prod.snd (val (v50 [Prod.fst (val (v53_2 x0 x1 x2 x3)), Prod.fst (Prod.snd (val (v53_2 x0 x1 x2 x3))), Prod.fst (Prod.snd (Prod.snd (val (v53_2 x0 x1 x2 x3)))), Prod.snd (Prod.snd (Prod.snd (val (v53_2 x0 x1 x2 x3))))]))))) (some ((0 : Int), (0 : Int), (3 : Int))) (some (Prod.fst (val (v50 [Prod.fst (val (v53_2 x0 x1 x2 x3)), Prod.fst (Prod.snd (val (v53_2 x0 x1 x2 x3))), Prod.fst (Prod.snd (Prod.snd (val (v53_2 x0 x1 x2 x3)))), Prod.snd (Prod.snd (Prod.snd (val (v53_2 x0 x1 x2 x3))))])), Prod.snd (val (v50 [Prod.fst (val (v53_2 x0 x1 x2 x3)), Prod.fst (Prod.snd (val (v53_2 x0 x1 x2 x3))), Prod.fst (Prod.snd (Prod.snd (val (v53_2 x0 x1 x2 x3)))), Prod.snd (Prod.snd (Prod.snd (val (v53_2 x0 x1 x2 x3))))])), (0 : Int)))) none) none)) none)) none)
theorem ev37_2 (x0 : Int) (x1 : Int) (x2 : Int) (x3 : Int) : fnBody Try.prog (mkTn base o8 t8 37) (TM.evF Try.prog (mkTn base o8 t8) dOk 40) dOk 40 37 [.agg [.int .i64 (x0), .int .i64 (x1)], .agg [.int .i64 (x2), .int .i64 (x3)], .sc (.fn 41 0 [] [])] [] = (v37_2 x0 x1 x2 x3).bind fun r => some ([.agg [.int .i64 (r.1), .int .i64 (r.2.1)], .sc (.int .i64 (r.2.2))], []) := by
  have h : fnBody Try.prog (mkTn base o8 t8 37) (TM.evF Try.prog (mkTn base o8 t8) dOk 40) dOk 40 37 [.agg [.int .i64 (x0), .int .i64 (x1)], .agg [.int .i64 (x2), .int .i64 (x3)], .sc (.fn 41 0 [] [])] [] = (cond (ok (v27 x0 x1)) (cond (!val (v27 x0 x1)) (some ([.agg [.int .i64 ((0 : Int)), .int .i64 ((0 : Int))], .sc (.int .i64 ((1 : Int)))], [])) (cond (ok (v27 x2 x3)) (cond (!val (v27 x2 x3)) (some ([.agg [.int .i64 ((0 : Int)), .int .i64 ((0 : Int))], .sc (.int .i64 ((1 : Int)))], [])) (cond (ok (v53_2 x0 x1 x2 x3)) (cond (ok (v27 (Prod.fst (val (v50 [Prod.fst (val (v53_2 x0 x1 x2 x3)), Prod.fst (Prod.snd (val (v53_2 x0 x1 x2 x3))), Prod.fst (Prod.snd (Prod.snd (val (v53_2 x0 x1 x2 x3)))), Prod.snd (Prod.snd (Prod.snd (val (v53_2 x0 x1 x2 x3))))]))) (Prod.snd (val (v50 [Prod.fst (val (v53_2 x0 x1 x2 x3)), Prod.fst (Prod.snd (val (v53_2 x0 x1 x2 x3))), Prod.fst (Prod.snd (Prod.snd (val (v53_2 x0 x1 x2 x3)))), Prod.snd (Prod.snd (Prod.snd (val (v53_2 x0 x1 x2 x3))))]))))) (cond (!val (v27 (Prod.fst (val (v50 [Prod.fst (val (v53_2 x0 x1 x2 x3)), Prod.fst (Prod.snd (val (v53_2 x0 x1 x2 x3))), Prod.fst (Prod.snd (Prod.snd (val (v53_2 x0 x1 x2 x3)))), Prod.snd (Prod.snd (Prod.snd (val (v53_2 x0 x1 x2 x3))))]))) (Prod.snd (val (v50 [Prod.fst (val (v53_2 x0 x1 x2 x3)), Prod.fst (Prod.snd (val (v53_2 x0 x1 x2 x3))), Prod.fst (Prod.snd (Prod.snd (val (v53_2 x0 x1 x2 x3)))), Prod.snd (Prod.snd (Prod.snd (val (v53_2 x0 x1 x2 x3))))]))))) (some ([.agg [.int .i64 ((0 : Int)), .int .i64 ((0 : Int))], .sc (.int .i64 ((3 : Int)))], [])) (some ([.agg [.int .i64 (Prod.fst (val (v50 [Prod.fst (val (v53_2 x0 x1 x2 x3)), Prod.fst (Prod.snd (val (v53_2 x0 x1 x2 x3))), Prod.fst (Prod.snd (Prod.snd (val (v53_2 x0 x1 x2 x3)))), Prod.snd (Prod.snd (Prod.snd (val (v53_2 x0 x1 x2 x3))))]))), .int .i64 (Prod.snd (val (v50 [Prod.fst (val (v53_2 x0 x1 x2 x3)), Prod.fst (Prod.snd (val (v53_2 x0 x1 x2 x3))), Prod.fst (Prod.snd (Prod.snd (val (v53_2 x0 x1 x2 x3)))), Prod.snd (Prod.snd (Prod.snd (val (v53_2 x0 x1 x2 x3))))])))], .sc (.int .i64 ((0 : Int)))], []))) none) none)) none)) none) := by kernel_rfl
  rw [h]
  unfold v37_2
  cases (ok (v27 x0 x1)) with
  | true =>
    cases (!val (v27 x0 x1)) with
    | true =>
      rfl
    | false =>
      cases (ok (v27 x2 x3)) with
      | true =>
        cases (!val (v27 x2 x3)) with
        | true =>
          rfl
        | false =>
          cases (ok (v53_2 x0 x1 x2 x3)) with
          | true =>
            cases (ok (v27 (Prod.fst (val (v50 [Prod.fst (val (v53_2 x0 x1 x2 x3)), Prod.fst (Prod.snd (val (v53_2 x0 x1 x2 x3))), Prod.fst (Prod.snd (Prod.snd (val (v53_2 x0 x1 x2 x3)))), Prod.snd (Prod.snd (Prod.snd (val (v53_2 x0 x1 x2 x3))))]))) (Prod.snd (val (v50 [Prod.fst (val (v53_2 x0 x1 x2 x3)), Prod.fst (Prod.snd (val (v53_2 x0 x1 x2 x3))), Prod.fst (Prod.snd (Prod.snd (val (v53_2 x0 x1 x2 x3)))), Prod.snd (Prod.snd (Prod.snd (val (v53_2 x0 x1 x2 x3))))]))))) with
            | true =>
              cases (!val (v27 (Prod.fst (val (v50 [Prod.fst (val (v53_2 x0 x1 x2 x3)), Prod.fst (Prod.snd (val (v53_2 x0 x1 x2 x3))), Prod.fst (Prod.snd (Prod.snd (val (v53_2 x0 x1 x2 x3)))), Prod.snd (Prod.snd (Prod.snd (val (v53_2 x0 x1 x2 x3))))]))) (Prod.snd (val (v50 [Prod.fst (val (v53_2 x0 x1 x2 x3)), Prod.fst (Prod.snd (val (v53_2 x0 x1 x2 x3))), Prod.fst (Prod.snd (Prod.snd (val (v53_2 x0 x1 x2 x3)))), Prod.snd (Prod.snd (Prod.snd (val (v53_2 x0 x1 x2 x3))))]))))) with
              | true =>
                rfl
              | false =>
                rfl
            | false =>
              rfl
          | false =>
            rfl
      | false =>
        rfl
  | false =>
    rfl
def sv37_2 : OrcS := fun al H => match al, H with
  | [.agg [.int .i64 (x0), .int .i64 (x1)], .agg [.int .i64 (x2), .int .i64 (x3)], .sc (.fn 41 0 [] [])], [] => some (ok (v37_2 x0 x1 x2 x3), [.agg [.int .i64 ((val (v37_2 x0 x1 x2 x3)).1), .int .i64 ((val (v37_2 x0 x1 x2 x3)).2.1)], .sc (.int .i64 ((val (v37_2 x0 x1 x2 x3)).2.2))], [])
  | _, _ => none
theorem wv37_2 : NewOrc Try.prog dOk base o8 t8 (37, sv37_2) := by
  intro al H q hq hq1
  have hq : sv37_2 al H = some q := hq
  unfold sv37_2 at hq
  split at hq
  · cases hq
    exact ⟨41, (ev37_2 _ _ _ _).trans (ok_bind hq1)⟩
  · cases hq
/-- interval.of -/
def v37_3 (x0 : Int) (x1 : Int) (x2 : Int) (x3 : Int) : Option (Int × Int × Int) := (cond (ok (v27 x0 x1)) (cond (!val (v27 x0 x1)) (some ((0 : Int), (0 : Int), (1 : Int))) (cond (ok (v27 x2 x3)) (cond (!val (v27 x2 x3)) (some ((0 : Int), (0 : Int), (1 : Int))) (cond (ok (v53_3 x0 x1 x2 x3)) (cond (ok (v27 (Prod.fst (val (v50 [Prod.fst (val (v53_3 x0 x1 x2 x3)), Prod.fst (Prod.snd (val (v53_3 x0 x1 x2 x3))), Prod.fst (Prod.snd (Prod.snd (val (v53_3 x0 x1 x2 x3)))), Prod.snd (Prod.snd (Prod.snd (val (v53_3 x0 x1 x2 x3))))]))) (Prod.snd (val (v50 [Prod.fst (val (v53_3 x0 x1 x2 x3)), Prod.fst (Prod.snd (val (v53_3 x0 x1 x2 x3))), Prod.fst (Prod.snd (Prod.snd (val (v53_3 x0 x1 x2 x3)))), Prod.snd (Prod.snd (Prod.snd (val (v53_3 x0 x1 x2 x3))))]))))) (cond (!val (v27 (Prod.fst (val (v50 [Prod.fst (val (v53_3 x0 x1 x2 x3)), Prod.fst (Prod.snd (val (v53_3 x0 x1 x2 x3))), Prod.fst (Prod.snd (Prod.snd (val (v53_3 x0 x1 x2 x3)))), Prod.snd (Prod.snd (Prod.snd (val (v53_3 x0 x1 x2 x3))))]))) (Prod.snd (val (v50 [Prod.fst (val (v53_3 x0 x1 x2 x3)), Prod.fst (Prod.snd (val (v53_3 x0 x1 x2 x3))), Prod.fst (Prod.snd (Prod.snd (val (v53_3 x0 x1 x2 x3)))), Prod.snd (Prod.snd (Prod.snd (val (v53_3 x0 x1 x2 x3))))]))))) (some ((0 : Int), (0 : Int), (3 : Int))) (some (Prod.fst (val (v50 [Prod.fst (val (v53_3 x0 x1 x2 x3)), Prod.fst (Prod.snd (val (v53_3 x0 x1 x2 x3))), Prod.fst (Prod.snd (Prod.snd (val (v53_3 x0 x1 x2 x3)))), Prod.snd (Prod.snd (Prod.snd (val (v53_3 x0 x1 x2 x3))))])), Prod.snd (val (v50 [Prod.fst (val (v53_3 x0 x1 x2 x3)), Prod.fst (Prod.snd (val (v53_3 x0 x1 x2 x3))), Prod.fst (Prod.snd (Prod.snd (val (v53_3 x0 x1 x2 x3)))), Prod.snd (Prod.snd (Prod.snd (val (v53_3 x0 x1 x2 x3))))])), (0 : Int)))) none) none)) none)) none)
theorem ev37_3 (x0 : Int) (x1 : Int) (x2 : Int) (x3 : Int) : fnBody Try.prog (mkTn base o8 t8 37) (TM.evF Try.prog (mkTn base o8 t8) dOk 40) dOk 40 37 [.agg [.int .i64 (x0), .int .i64 (x1)], .agg [.int .i64 (x2), .int .i64 (x3)], .sc (.fn 44 0 [] [])] [] = (v37_3 x0 x1 x2 x3).bind fun r => some ([.agg [.int .i64 (r.1), .int .i64 (r.2.1)], .sc (.int .i64 (r.2.2))], []) := by
  have h : fnBody Try.prog (mkTn base o8 t8 37) (TM.evF Try.prog (mkTn base o8 t8) dOk 40) dOk 40 37 [.agg [.int .i64 (x0), .int .i64 (x1)], .agg [.int .i64 (x2), .int .i64 (x3)], .sc (.fn 44 0 [] [])] [] = (cond (ok (v27 x0 x1)) (cond (!val (v27 x0 x1)) (some ([.agg [.int .i64 ((0 : Int)), .int .i64 ((0 : Int))], .sc (.int .i64 ((1 : Int)))], [])) (cond (ok (v27 x2 x3)) (cond (!val (v27 x2 x3)) (some ([.agg [.int .i64 ((0 : Int)), .int .i64 ((0 : Int))], .sc (.int .i64 ((1 : Int)))], [])) (cond (ok (v53_3 x0 x1 x2 x3)) (cond (ok (v27 (Prod.fst (val (v50 [Prod.fst (val (v53_3 x0 x1 x2 x3)), Prod.fst (Prod.snd (val (v53_3 x0 x1 x2 x3))), Prod.fst (Prod.snd (Prod.snd (val (v53_3 x0 x1 x2 x3)))), Prod.snd (Prod.snd (Prod.snd (val (v53_3 x0 x1 x2 x3))))]))) (Prod.snd (val (v50 [Prod.fst (val (v53_3 x0 x1 x2 x3)), Prod.fst (Prod.snd (val (v53_3 x0 x1 x2 x3))), Prod.fst (Prod.snd (Prod.snd (val (v53_3 x0 x1 x2 x3)))), Prod.snd (Prod.snd (Prod.snd (val (v53_3 x0 x1 x2 x3))))]))))) (cond (!val (v27 (Prod.fst (val (v50 [Prod.fst (val (v53_3 x0 x1 x2 x3)), Prod.fst (Prod.snd (val (v53_3 x0 x1 x2 x3))), Prod.fst (Prod.snd (Prod.snd (val (v53_3 x0 x1 x2 x3)))), Prod.snd (Prod.snd (Prod.snd (val (v53_3 x0 x1 x2 x3))))]))) (Prod.snd (val (v50 [Prod.fst (val (v53_3 x0 x1 x2 x3)), Prod.fst (Prod.snd (val (v53_3 x0 x1 x2 x3))), Prod.fst (Prod.snd (Prod.snd (val (v53_3 x0 x1 x2 x3)))), Prod.snd (Prod.snd (Prod.snd (val (v53_3 x0 x1 x2 x3))))]))))) (some ([.agg [.int .i64 ((0 : Int)), .int .i64 ((0 : Int))], .sc (.int .i64 ((3 : Int)))], [])) (some ([.agg [.int .i64 (Prod.fst (val (v50 [Prod.fst (val (v53_3 x0 x1 x2 x3)), Prod.fst (Prod.snd (val (v53_3 x0 x1 x2 x3))), Prod.fst (Prod.snd (Prod.snd (val (v53_3 x0 x1 x2 x3)))), Prod.snd (Prod.snd (Prod.snd (val (v53_3 x0 x1 x2 x3))))]))), .int .i64 (Prod.snd (val (v50 [Prod.fst (val (v53_3 x0 x1 x2 x3)), Prod.fst (Prod.snd (val (v53_3 x0 x1 x2 x3))), Prod.fst (Prod.snd (Prod.snd (val (v53_3 x0 x1 x2 x3)))), Prod.snd (Prod.snd (Prod.snd (val (v53_3 x0 x1 x2 x3))))])))], .sc (.int .i64 ((0 : Int)))], []))) none) none)) none)) none) := by kernel_rfl
  rw [h]
  unfold v37_3
  cases (ok (v27 x0 x1)) with
  | true =>
    cases (!val (v27 x0 x1)) with
    | true =>
      rfl
    | false =>
      cases (ok (v27 x2 x3)) with
      | true =>
        cases (!val (v27 x2 x3)) with
        | true =>
          rfl
        | false =>
          cases (ok (v53_3 x0 x1 x2 x3)) with
          | true =>
            cases (ok (v27 (Prod.fst (val (v50 [Prod.fst (val (v53_3 x0 x1 x2 x3)), Prod.fst (Prod.snd (val (v53_3 x0 x1 x2 x3))), Prod.fst (Prod.snd (Prod.snd (val (v53_3 x0 x1 x2 x3)))), Prod.snd (Prod.snd (Prod.snd (val (v53_3 x0 x1 x2 x3))))]))) (Prod.snd (val (v50 [Prod.fst (val (v53_3 x0 x1 x2 x3)), Prod.fst (Prod.snd (val (v53_3 x0 x1 x2 x3))), Prod.fst (Prod.snd (Prod.snd (val (v53_3 x0 x1 x2 x3)))), Prod.snd (Prod.snd (Prod.snd (val (v53_3 x0 x1 x2 x3))))]))))) with
            | true =>
              cases (!val (v27 (Prod.fst (val (v50 [Prod.fst (val (v53_3 x0 x1 x2 x3)), Prod.fst (Prod.snd (val (v53_3 x0 x1 x2 x3))), Prod.fst (Prod.snd (Prod.snd (val (v53_3 x0 x1 x2 x3)))), Prod.snd (Prod.snd (Prod.snd (val (v53_3 x0 x1 x2 x3))))]))) (Prod.snd (val (v50 [Prod.fst (val (v53_3 x0 x1 x2 x3)), Prod.fst (Prod.snd (val (v53_3 x0 x1 x2 x3))), Prod.fst (Prod.snd (Prod.snd (val (v53_3 x0 x1 x2 x3)))), Prod.snd (Prod.snd (Prod.snd (val (v53_3 x0 x1 x2 x3))))]))))) with
              | true =>
                rfl
              | false =>
                rfl
            | false =>
              rfl
          | false =>
            rfl
      | false =>
        rfl
  | false =>
    rfl
def sv37_3 : OrcS := fun al H => match al, H with
  | [.agg [.int .i64 (x0), .int .i64 (x1)], .agg [.int .i64 (x2), .int .i64 (x3)], .sc (.fn 44 0 [] [])], [] => some (ok (v37_3 x0 x1 x2 x3), [.agg [.int .i64 ((val (v37_3 x0 x1 x2 x3)).1), .int .i64 ((val (v37_3 x0 x1 x2 x3)).2.1)], .sc (.int .i64 ((val (v37_3 x0 x1 x2 x3)).2.2))], [])
  | _, _ => none
theorem wv37_3 : NewOrc Try.prog dOk base o8 t8 (37, sv37_3) := by
  intro al H q hq hq1
  have hq : sv37_3 al H = some q := hq
  unfold sv37_3 at hq
  split at hq
  · cases hq
    exact ⟨41, (ev37_3 _ _ _ _).trans (ok_bind hq1)⟩
  · cases hq
def o9 : OrcT := (25, sv25) :: (37, sv37) :: (37, sv37_1) :: (37, sv37_2) :: (37, sv37_3) :: o8
def t9 : TellT := t8
abbrev tn9 : FuncId → TAn := mkTn base o9 t9
theorem ok9 : TnOk Try.prog tn9 (mkA base) dOk := by
  have h0 : TnOk Try.prog (mkTn base o8 t8) (mkA base) dOk := ok8
  have h1 := tn_orc h0 h0 (p := (37, sv37_3)) wv37_3
  have h2 := tn_orc h0 h1 (p := (37, sv37_2)) wv37_2
  have h3 := tn_orc h0 h2 (p := (37, sv37_1)) wv37_1
  have h4 := tn_orc h0 h3 (p := (37, sv37)) wv37
  have h5 := tn_orc h0 h4 (p := (25, sv25)) wv25
  exact h5
end Go.Proofs.Ytojbaamhnfinpaa
set_option maxRecDepth 1000000
set_option linter.unusedVariables false
set_option maxHeartbeats 4000000
namespace Go.Proofs.Ytojbaamhnfinpaa
open Go Go.AM Go.TM Go.Proofs
/-- interval.Add -/
def v11 (x0 : Int) (x1 : Int) (x2 : Int) (x3 : Int) : Option (Int × Int × Int) := (cond (ok (v37 x0 x1 x2 x3)) (some (Prod.fst (val (v37 x0 x1 x2 x3)), Prod.fst (Prod.snd (val (v37 x0 x1 x2 x3))), Prod.snd (Prod.snd (val (v37 x0 x1 x2 x3))))) none)
theorem ev11 (x0 : Int) (x1 : Int) (x2 : Int) (x3 : Int) : fnBody Try.prog (mkTn base o9 t9 11) (TM.evF Try.prog (mkTn base o9 t9) dOk 40) dOk 40 11 [.agg [.int .i64 (x0), .int .i64 (x1)], .agg [.int .i64 (x2), .int .i64 (x3)]] [] = (v11 x0 x1 x2 x3).bind fun r => some ([.agg [.int .i64 (r.1), .int .i64 (r.2.1)], .sc (.int .i64 (r.2.2))], []) := by
  have h : fnBody Try.prog (mkTn base o9 t9 11) (TM.evF Try.prog (mkTn base o9 t9) dOk 40) dOk 40 11 [.agg [.int .i64 (x0), .int .i64 (x1)], .agg [.int .i64 (x2), .int .i64 (x3)]] [] = (cond (ok (v37 x0 x1 x2 x3)) (some ([.agg [.int .i64 (Prod.fst (val (v37 x0 x1 x2 x3))), .int .i64 (Prod.fst (Prod.snd (val (v37 x0 x1 x2 x3))))], .sc (.int .i64 (Prod.snd (Prod.snd (val (v37 x0 x1 x2 x3)))))], [])) none) := by kernel_rfl
  rw [h]
  unfold v11
  cases (ok (v37 x0 x1 x2 x3)) with
  | true =>
    rfl
  | false =>
    rfl
def sv11 : OrcS := fun al H => match al, H with
  | [.agg [.int .i64 (x0), .int .i64 (x1)], .agg [.int .i64 (x2), .int .i64 (x3)]], [] => some (ok (v11 x0 x1 x2 x3), [.agg [.int .i64 ((val (v11 x0 x1 x2 x3)).1), .int .i64 ((val (v11 x0 x1 x2 x3)).2.1)], .sc (.int .i64 ((val (v11 x0 x1 x2 x3)).2.2))], [])
  | _, _ => none
theorem wv11 : NewOrc Try.prog dOk base o9 t9 (11, sv11) := by
  intro al H q hq hq1
  have hq : sv11 al H = some q := hq
  unfold sv11 at hq
  split at hq
  · cases hq
    exact ⟨41, (ev11 _ _ _ _).trans (ok_bind hq1)⟩
  · cases hq
/-- interval.Sub -/
def v13 (x0 : Int) (x1 : Int) (x2 : Int) (x3 : Int) : Option (Int × Int × Int) := (cond (ok (v37_1 x0 x1 x2 x3)) (some (Prod.fst (val (v37_1 x0 x1 x2 x3)), Prod.fst (Prod.snd (val (v37_1 x0 x1 x2 x3))), Prod.snd (Prod.snd (val (v37_1 x0 x1 x2 x3))))) none)
theorem ev13 (x0 : Int) (x1 : Int) (x2 : Int) (x3 : Int) : fnBody Try.prog (mkTn base o9 t9 13) (TM.evF Try.prog (mkTn base o9 t9) dOk 40) dOk 40 13 [.agg [.int .i64 (x0), .int .i64 (x1)], .agg [.int .i64 (x2), .int .i64 (x3)]] [] = (v13 x0 x1 x2 x3).bind fun r => some ([.agg [.int .i64 (r.1), .int .i64 (r.2.1)], .sc (.int .i64 (r.2.2))], []) := by
  have h : fnBody Try.prog (mkTn base o9 t9 13) (TM.evF Try.prog (mkTn base o9 t9) dOk 40) dOk 40 13 [.agg [.int .i64 (x0), .int .i64 (x1)], .agg [.int .i64 (x2), .int .i64 (x3)]] [] = (cond (ok (v37_1 x0 x1 x2 x3)) (some ([.agg [.int .i64 (Prod.fst (val (v37_1 x0 x1 x2 x3))), .int .i64 (Prod.fst (Prod.snd (val (v37_1 x0 x1 x2 x3))))], .sc (.int .i64 (Prod.snd (Prod.snd (val (v37_1 x0 x1 x2 x3)))))], [])) none) := by kernel_rfl
  rw [h]
  unfold v13
  cases (ok (v37_1 x0 x1 x2 x3)) with
  | true =>
    rfl
  | false =>
    rfl
def sv13 : OrcS := fun al H => match al, H with
  | [.agg [.int .i64 (x0), .int .i64 (x1)], .agg [.int .i64 (x2), .int .i64 (x3)]], [] => some (ok (v13 x0 x1 x2 x3), [.agg [.int .i64 ((val (v13 x0 x1 x2 x3)).1), .int .i64 ((val (v13 x0 x1 x2 x3)).2.1)], .sc (.int .i64 ((val (v13 x0 x1 x2 x3)).2.2))], [])
  | _, _ => none
theorem wv13 : NewOrc Try.prog dOk base o9 t9 (13, sv13) := by
  intro al H q hq hq1
  have hq : sv13 al H = some q := hq
  unfold sv13 at hq
  split at hq
  · cases hq
    exact ⟨41, (ev13 _ _ _ _).trans (ok_bind hq1)⟩
  · cases hq
/-- interval.Mul -/
def v15 (x0 : Int) (x1 : Int) (x2 : Int) (x3 : Int) : Option (Int × Int × Int) := (cond (ok (v37_2 x0 x1 x2 x3)) (some (Prod.fst (val (v37_2 x0 x1 x2 x3)), Prod.fst (Prod.snd (val (v37_2 x0 x1 x2 x3))), Prod.snd (Prod.snd (val (v37_2 x0 x1 x2 x3))))) none)
theorem ev15 (x0 : Int) (x1 : Int) (x2 : Int) (x3 : Int) : fnBody Try.prog (mkTn base o9 t9 15) (TM.evF Try.prog (mkTn base o9 t9) dOk 40) dOk 40 15 [.agg [.int .i64 (x0), .int .i64 (x1)], .agg [.int .i64 (x2), .int .i64 (x3)]] [] = (v15 x0 x1 x2 x3).bind fun r => some ([.agg [.int .i64 (r.1), .int .i64 (r.2.1)], .sc (.int .i64 (r.2.2))], []) := by
  have h : fnBody Try.prog (mkTn base o9 t9 15) (TM.evF Try.prog (mkTn base o9 t9) dOk 40) dOk 40 15 [.agg [.int .i64 (x0), .int .i64 (x1)], .agg [.int .i64 (x2), .int .i64 (x3)]] [] = (cond (ok (v37_2 x0 x1 x2 x3)) (some ([.agg [.int .i64 (Prod.fst (val (v37_2 x0 x1 x2 x3))), .int .i64 (Prod.fst (Prod.snd (val (v37_2 x0 x1 x2 x3))))], .sc (.int .i64 (Prod.snd (Prod.snd (val (v37_2 x0 x1 x2 x3)))))], [])) none) := by kernel_rfl
  rw [h]
  unfold v15
  cases (ok (v37_2 x0 x1 x2 x3)) with
  | true =>
    rfl
  | false =>
    rfl
def sv15 : OrcS := fun al H => match al, H with
  | [.agg [.int .i64 (x0), .int .i64 (x1)], .agg [.int .i64 (x2), .int .i64 (x3)]], [] => some (ok (v15 x0 x1 x2 x3), [.agg [.int .i64 ((val (v15 x0 x1 x2 x3)).1), .int .i64 ((val (v15 x0 x1 x2 x3)).2.1)], .sc (.int .i64 ((val (v15 x0 x1 x2 x3)).2.2))], [])
  | _, _ => none
theorem wv15 : NewOrc Try.prog dOk base o9 t9 (15, sv15) := by
  intro al H q hq hq1
  have hq : sv15 al H = some q := hq
  unfold sv15 at hq
  split at hq
  · cases hq
    exact ⟨41, (ev15 _ _ _ _).trans (ok_bind hq1)⟩
  · cases hq
/-- interval.divided -/
def v43 (x0 : Int) (x1 : Int) (x2 : Int) (x3 : Int) : Option (Int × Int × Int) := (cond (ok (v27 x0 x1)) (cond (!val (v27 x0 x1)) (some ((0 : Int), (0 : Int), (1 : Int))) (cond (ok (v27 x2 x3)) (cond (!val (v27 x2 x3)) (some ((0 : Int), (0 : Int), (1 : Int))) (cond (decide (x2 ≤ (0 : Int))) (cond (decide (x3 ≥ (0 : Int))) (some ((0 : Int), (0 : Int), (14 : Int))) (cond (ok (v37_3 x0 x1 x2 x3)) (some (Prod.fst (val (v37_3 x0 x1 x2 x3)), Prod.fst (Prod.snd (val (v37_3 x0 x1 x2 x3))), Prod.snd (Prod.snd (val (v37_3 x0 x1 x2 x3))))) none)) (cond (ok (v37_3 x0 x1 x2 x3)) (some (Prod.fst (val (v37_3 x0 x1 x2 x3)), Prod.fst (Prod.snd (val (v37_3 x0 x1 x2 x3))), Prod.snd (Prod.snd (val (v37_3 x0 x1 x2 x3))))) none))) none)) none)
theorem ev43 (x0 : Int) (x1 : Int) (x2 : Int) (x3 : Int) : fnBody Try.prog (mkTn base o9 t9 43) (TM.evF Try.prog (mkTn base o9 t9) dOk 40) dOk 40 43 [.agg [.int .i64 (x0), .int .i64 (x1)], .agg [.int .i64 (x2), .int .i64 (x3)], .sc (.fn 44 0 [] [])] [] = (v43 x0 x1 x2 x3).bind fun r => some ([.agg [.int .i64 (r.1), .int .i64 (r.2.1)], .sc (.int .i64 (r.2.2))], []) := by
  have h : fnBody Try.prog (mkTn base o9 t9 43) (TM.evF Try.prog (mkTn base o9 t9) dOk 40) dOk 40 43 [.agg [.int .i64 (x0), .int .i64 (x1)], .agg [.int .i64 (x2), .int .i64 (x3)], .sc (.fn 44 0 [] [])] [] = (cond (ok (v27 x0 x1)) (cond (!val (v27 x0 x1)) (some ([.agg [.int .i64 ((0 : Int)), .int .i64 ((0 : Int))], .sc (.int .i64 ((1 : Int)))], [])) (cond (ok (v27 x2 x3)) (cond (!val (v27 x2 x3)) (some ([.agg [.int .i64 ((0 : Int)), .int .i64 ((0 : Int))], .sc (.int .i64 ((1 : Int)))], [])) (cond (decide (x2 ≤ (0 : Int))) (cond (decide (x3 ≥ (0 : Int))) (some ([.agg [.int .i64 ((0 : Int)), .int .i64 ((0 : Int))], .sc (.int .i64 ((14 : Int)))], [])) (cond (ok (v37_3 x0 x1 x2 x3)) (some ([.agg [.int .i64 (Prod.fst (val (v37_3 x0 x1 x2 x3))), .int .i64 (Prod.fst (Prod.snd (val (v37_3 x0 x1 x2 x3))))], .sc (.int .i64 (Prod.snd (Prod.snd (val (v37_3 x0 x1 x2 x3)))))], [])) none)) (cond (ok (v37_3 x0 x1 x2 x3)) (some ([.agg [.int .i64 (Prod.fst (val (v37_3 x0 x1 x2 x3))), .int .i64 (Prod.fst (Prod.snd (val (v37_3 x0 x1 x2 x3))))], .sc (.int .i64 (Prod.snd (Prod.snd (val (v37_3 x0 x1 x2 x3)))))], [])) none))) none)) none) := by kernel_rfl
  rw [h]
  unfold v43
  cases (ok (v27 x0 x1)) with
  | true =>
    cases (!val (v27 x0 x1)) with
    | true =>
      rfl
    | false =>
      cases (ok (v27 x2 x3)) with
      | true =>
        cases (!val (v27 x2 x3)) with
        | true =>
          rfl
        | false =>
          cases (decide (x2 ≤ (0 : Int))) with
          | true =>
            cases (decide (x3 ≥ (0 : Int))) with
            | true =>
              rfl
            | false =>
              cases (ok (v37_3 x0 x1 x2 x3)) with
              | true =>
                rfl
              | false =>
                rfl
          | false =>
            cases (ok (v37_3 x0 x1 x2 x3)) with
            | true =>
              rfl
            | false =>
              rfl
      | false =>
        rfl
  | false =>
    rfl
def sv43 : OrcS := fun al H => match al, H with
  | [.agg [.int .i64 (x0), .int .i64 (x1)], .agg [.int .i64 (x2), .int .i64 (x3)], .sc (.fn 44 0 [] [])], [] => some (ok (v43 x0 x1 x2 x3), [.agg [.int .i64 ((val (v43 x0 x1 x2 x3)).1), .int .i64 ((val (v43 x0 x1 x2 x3)).2.1)], .sc (.int .i64 ((val (v43 x0 x1 x2 x3)).2.2))], [])
  | _, _ => none
theorem wv43 : NewOrc Try.prog dOk base o9 t9 (43, sv43) := by
  intro al H q hq hq1
  have hq : sv43 al H = some q := hq
  unfold sv43 at hq
  split at hq
  · cases hq
    exact ⟨41, (ev43 _ _ _ _).trans (ok_bind hq1)⟩
  · cases hq
def o10 : OrcT := (11, sv11) :: (13, sv13) :: (15, sv15) :: (43, sv43) :: o9
def t10 : TellT := t9
abbrev tn10 : FuncId → TAn := mkTn base o10 t10
theorem ok10 : TnOk Try.prog tn10 (mkA base) dOk := by
  have h0 : TnOk Try.prog (mkTn base o9 t9) (mkA base) dOk := ok9
  have h1 := tn_orc h0 h0 (p := (43, sv43)) wv43
  have h2 := tn_orc h0 h1 (p := (15, sv15)) wv15
  have h3 := tn_orc h0 h2 (p := (13, sv13)) wv13
  have h4 := tn_orc h0 h3 (p := (11, sv11)) wv11
  exact h4
end Go.Proofs.Ytojbaamhnfinpaa
set_option maxRecDepth 1000000
set_option linter.unusedVariables false
set_option maxHeartbeats 4000000
namespace Go.Proofs.Ytojbaamhnfinpaa
open Go Go.AM Go.TM Go.Proofs
/-- interval.Div -/
def v17 (x0 : Int) (x1 : Int) (x2 : Int) (x3 : Int) : Option (Int × Int × Int) := (cond (ok (v43 x0 x1 x2 x3)) (some (Prod.fst (val (v43 x0 x1 x2 x3)), Prod.fst (Prod.snd (val (v43 x0 x1 x2 x3))), Prod.snd (Prod.snd (val (v43 x0 x1 x2 x3))))) none)
theorem ev17 (x0 : Int) (x1 : Int) (x2 : Int) (x3 : Int) : fnBody Try.prog (mkTn base o10 t10 17) (TM.evF Try.prog (mkTn base o10 t10) dOk 40) dOk 40 17 [.agg [.int .i64 (x0), .int .i64 (x1)], .agg [.int .i64 (x2), .int .i64 (x3)]] [] = (v17 x0 x1 x2 x3).bind fun r => some ([.agg [.int .i64 (r.1), .int .i64 (r.2.1)], .sc (.int .i64 (r.2.2))], []) := by
  have h : fnBody Try.prog (mkTn base o10 t10 17) (TM.evF Try.prog (mkTn base o10 t10) dOk 40) dOk 40 17 [.agg [.int .i64 (x0), .int .i64 (x1)], .agg [.int .i64 (x2), .int .i64 (x3)]] [] = (cond (ok (v43 x0 x1 x2 x3)) (some ([.agg [.int .i64 (Prod.fst (val (v43 x0 x1 x2 x3))), .int .i64 (Prod.fst (Prod.snd (val (v43 x0 x1 x2 x3))))], .sc (.int .i64 (Prod.snd (Prod.snd (val (v43 x0 x1 x2 x3)))))], [])) none) := by kernel_rfl
  rw [h]
  unfold v17
  cases (ok (v43 x0 x1 x2 x3)) with
  | true =>
    rfl
  | false =>
    rfl
def sv17 : OrcS := fun al H => match al, H with
  | [.agg [.int .i64 (x0), .int .i64 (x1)], .agg [.int .i64 (x2), .int .i64 (x3)]], [] => some (ok (v17 x0 x1 x2 x3), [.agg [.int .i64 ((val (v17 x0 x1 x2 x3)).1), .int .i64 ((val (v17 x0 x1 x2 x3)).2.1)], .sc (.int .i64 ((val (v17 x0 x1 x2 x3)).2.2))], [])
  | _, _ => none
theorem wv17 : NewOrc Try.prog dOk base o10 t10 (17, sv17) := by
  intro al H q hq hq1
  have hq : sv17 al H = some q := hq
  unfold sv17 at hq
  split at hq
  · cases hq
    exact ⟨41, (ev17 _ _ _ _).trans (ok_bind hq1)⟩
  · cases hq
def o11 : OrcT := (17, sv17) :: o10
def t11 : TellT := t10
abbrev tn11 : FuncId → TAn := mkTn base o11 t11
theorem ok11 : TnOk Try.prog tn11 (mkA base) dOk := by
  have h0 : TnOk Try.prog (mkTn base o10 t10) (mkA base) dOk := ok10
  have h1 := tn_orc h0 h0 (p := (17, sv17)) wv17
  exact h1
end Go.Proofs.Ytojbaamhnfinpaa
set_option maxRecDepth 1000000
set_option linter.unusedVariables false
set_option maxHeartbeats 4000000
namespace Go.Proofs.Ytojbaamhnfinpaa
open Go Go.AM Go.TM Go.Proofs
/-- queuelablaw06.span -/
def v32 (x0 : Int) (x1 : Int) : Option Unit := (some ())
theorem ev32 (x0 : Int) (x1 : Int) : fnBody Try.prog (mkTn base o11 t11 32) (TM.evF Try.prog (mkTn base o11 t11) dOk 40) dOk 40 32 [.sc (.int .i64 (x0)), .sc (.int .i64 (x1))] [] = (v32 x0 x1).bind fun r => some ([.agg [.int .i64 (x0), .int .i64 (x1)]], []) := by
  have h : fnBody Try.prog (mkTn base o11 t11 32) (TM.evF Try.prog (mkTn base o11 t11) dOk 40) dOk 40 32 [.sc (.int .i64 (x0)), .sc (.int .i64 (x1))] [] = (some ([.agg [.int .i64 (x0), .int .i64 (x1)]], [])) := by kernel_rfl
  rw [h]
  unfold v32
  rfl
def sv32 : OrcS := fun al H => match al, H with
  | [.sc (.int .i64 (x0)), .sc (.int .i64 (x1))], [] => some (ok (v32 x0 x1), [.agg [.int .i64 (x0), .int .i64 (x1)]], [])
  | _, _ => none
theorem wv32 : NewOrc Try.prog dOk base o11 t11 (32, sv32) := by
  intro al H q hq hq1
  have hq : sv32 al H = some q := hq
  unfold sv32 at hq
  split at hq
  · cases hq
    exact ⟨41, (ev32 _ _).trans (ok_bind hq1)⟩
  · cases hq
def o12 : OrcT := (32, sv32) :: o11
def t12 : TellT := t11
abbrev tn12 : FuncId → TAn := mkTn base o12 t12
theorem ok12 : TnOk Try.prog tn12 (mkA base) dOk := by
  have h0 : TnOk Try.prog (mkTn base o11 t11) (mkA base) dOk := ok11
  have h1 := tn_orc h0 h0 (p := (32, sv32)) wv32
  exact h1
end Go.Proofs.Ytojbaamhnfinpaa
set_option maxRecDepth 1000000
set_option linter.unusedVariables false
set_option maxHeartbeats 4000000
namespace Go.Proofs.Ytojbaamhnfinpaa
open Go Go.AM Go.TM Go.Proofs
/-- interval.up -/
def v47 (x0 : Int) (x1 : Int) : Option Int := (cond (ok (v44 (IntKind.wrap IntKind.i64 ((0 : Int) - x0)) x1)) (some (IntKind.wrap IntKind.i64 ((0 : Int) - val (v44 (IntKind.wrap IntKind.i64 ((0 : Int) - x0)) x1)))) none)
theorem ev47 (x0 : Int) (x1 : Int) : fnBody Try.prog (mkTn base o12 t12 47) (TM.evF Try.prog (mkTn base o12 t12) dOk 40) dOk 40 47 [.sc (.int .i64 (x0)), .sc (.int .i64 (x1))] [] = (v47 x0 x1).bind fun r => some ([.sc (.int .i64 (r))], []) := by
  have h : fnBody Try.prog (mkTn base o12 t12 47) (TM.evF Try.prog (mkTn base o12 t12) dOk 40) dOk 40 47 [.sc (.int .i64 (x0)), .sc (.int .i64 (x1))] [] = (cond (ok (v44 (IntKind.wrap IntKind.i64 ((0 : Int) - x0)) x1)) (some ([.sc (.int .i64 (IntKind.wrap IntKind.i64 ((0 : Int) - val (v44 (IntKind.wrap IntKind.i64 ((0 : Int) - x0)) x1))))], [])) none) := by kernel_rfl
  rw [h]
  unfold v47
  cases (ok (v44 (IntKind.wrap IntKind.i64 ((0 : Int) - x0)) x1)) with
  | true =>
    rfl
  | false =>
    rfl
def sv47 : OrcS := fun al H => match al, H with
  | [.sc (.int .i64 (x0)), .sc (.int .i64 (x1))], [] => some (ok (v47 x0 x1), [.sc (.int .i64 ((val (v47 x0 x1))))], [])
  | _, _ => none
theorem wv47 : NewOrc Try.prog dOk base o12 t12 (47, sv47) := by
  intro al H q hq hq1
  have hq : sv47 al H = some q := hq
  unfold sv47 at hq
  split at hq
  · cases hq
    exact ⟨41, (ev47 _ _).trans (ok_bind hq1)⟩
  · cases hq
def o13 : OrcT := (47, sv47) :: o12
def t13 : TellT := t12
abbrev tn13 : FuncId → TAn := mkTn base o13 t13
theorem ok13 : TnOk Try.prog tn13 (mkA base) dOk := by
  have h0 : TnOk Try.prog (mkTn base o12 t12) (mkA base) dOk := ok12
  have h1 := tn_orc h0 h0 (p := (47, sv47)) wv47
  exact h1
end Go.Proofs.Ytojbaamhnfinpaa
set_option maxRecDepth 1000000
set_option linter.unusedVariables false
set_option maxHeartbeats 4000000
namespace Go.Proofs.Ytojbaamhnfinpaa
open Go Go.AM Go.TM Go.Proofs
/-- interval.each[int] -/
def v53_4 (x0 : Int) (x1 : Int) (x2 : Int) (x3 : Int) : Option (Int × Int × Int × Int) := (cond (ok (v47 x0 x2)) (cond (ok (v47 x0 x3)) (cond (ok (v47 x1 x2)) (cond (ok (v47 x1 x3)) (some (val (v47 x0 x2), val (v47 x0 x3), val (v47 x1 x2), val (v47 x1 x3))) none) none) none) none)
theorem ev53_4 (x0 : Int) (x1 : Int) (x2 : Int) (x3 : Int) : fnBody Try.prog (mkTn base o13 t13 53) (TM.evF Try.prog (mkTn base o13 t13) dOk 40) dOk 40 53 [.agg [.int .i64 (x0), .int .i64 (x1)], .agg [.int .i64 (x2), .int .i64 (x3)], .sc (.fn 47 0 [] [])] [] = (v53_4 x0 x1 x2 x3).bind fun r => some ([.agg [.int .i64 (r.1), .int .i64 (r.2.1), .int .i64 (r.2.2.1), .int .i64 (r.2.2.2)]], []) := by
  have h : fnBody Try.prog (mkTn base o13 t13 53) (TM.evF Try.prog (mkTn base o13 t13) dOk 40) dOk 40 53 [.agg [.int .i64 (x0), .int .i64 (x1)], .agg [.int .i64 (x2), .int .i64 (x3)], .sc (.fn 47 0 [] [])] [] = (cond (ok (v47 x0 x2)) (cond (ok (v47 x0 x3)) (cond (ok (v47 x1 x2)) (cond (ok (v47 x1 x3)) (some ([.agg [.int .i64 (val (v47 x0 x2)), .int .i64 (val (v47 x0 x3)), .int .i64 (val (v47 x1 x2)), .int .i64 (val (v47 x1 x3))]], [])) none) none) none) none) := by kernel_rfl
  rw [h]
  unfold v53_4
  cases (ok (v47 x0 x2)) with
  | true =>
    cases (ok (v47 x0 x3)) with
    | true =>
      cases (ok (v47 x1 x2)) with
      | true =>
        cases (ok (v47 x1 x3)) with
        | true =>
          rfl
        | false =>
          rfl
      | false =>
        rfl
    | false =>
      rfl
  | false =>
    rfl
def sv53_4 : OrcS := fun al H => match al, H with
  | [.agg [.int .i64 (x0), .int .i64 (x1)], .agg [.int .i64 (x2), .int .i64 (x3)], .sc (.fn 47 0 [] [])], [] => some (ok (v53_4 x0 x1 x2 x3), [.agg [.int .i64 ((val (v53_4 x0 x1 x2 x3)).1), .int .i64 ((val (v53_4 x0 x1 x2 x3)).2.1), .int .i64 ((val (v53_4 x0 x1 x2 x3)).2.2.1), .int .i64 ((val (v53_4 x0 x1 x2 x3)).2.2.2)]], [])
  | _, _ => none
theorem wv53_4 : NewOrc Try.prog dOk base o13 t13 (53, sv53_4) := by
  intro al H q hq hq1
  have hq : sv53_4 al H = some q := hq
  unfold sv53_4 at hq
  split at hq
  · cases hq
    exact ⟨41, (ev53_4 _ _ _ _).trans (ok_bind hq1)⟩
  · cases hq
def o14 : OrcT := (53, sv53_4) :: o13
def t14 : TellT := t13
abbrev tn14 : FuncId → TAn := mkTn base o14 t14
theorem ok14 : TnOk Try.prog tn14 (mkA base) dOk := by
  have h0 : TnOk Try.prog (mkTn base o13 t13) (mkA base) dOk := ok13
  have h1 := tn_orc h0 h0 (p := (53, sv53_4)) wv53_4
  exact h1
end Go.Proofs.Ytojbaamhnfinpaa
set_option maxRecDepth 1000000
set_option linter.unusedVariables false
set_option maxHeartbeats 4000000
namespace Go.Proofs.Ytojbaamhnfinpaa
open Go Go.AM Go.TM Go.Proofs
/-- interval.of -/
def v37_4 (x0 : Int) (x1 : Int) (x2 : Int) (x3 : Int) : Option (Int × Int × Int) := (cond (ok (v27 x0 x1)) (cond (!val (v27 x0 x1)) (some ((0 : Int), (0 : Int), (1 : Int))) (cond (ok (v27 x2 x3)) (cond (!val (v27 x2 x3)) (some ((0 : Int), (0 : Int), (1 : Int))) (cond (ok (v53_4 x0 x1 x2 x3)) (cond (ok (v27 (Prod.fst (val (v50 [Prod.fst (val (v53_4 x0 x1 x2 x3)), Prod.fst (Prod.snd (val (v53_4 x0 x1 x2 x3))), Prod.fst (Prod.snd (Prod.snd (val (v53_4 x0 x1 x2 x3)))), Prod.snd (Prod.snd (Prod.snd (val (v53_4 x0 x1 x2 x3))))]))) (Prod.snd (val (v50 [Prod.fst (val (v53_4 x0 x1 x2 x3)), Prod.fst (Prod.snd (val (v53_4 x0 x1 x2 x3))), Prod.fst (Prod.snd (Prod.snd (val (v53_4 x0 x1 x2 x3)))), Prod.snd (Prod.snd (Prod.snd (val (v53_4 x0 x1 x2 x3))))]))))) (cond (!val (v27 (Prod.fst (val (v50 [Prod.fst (val (v53_4 x0 x1 x2 x3)), Prod.fst (Prod.snd (val (v53_4 x0 x1 x2 x3))), Prod.fst (Prod.snd (Prod.snd (val (v53_4 x0 x1 x2 x3)))), Prod.snd (Prod.snd (Prod.snd (val (v53_4 x0 x1 x2 x3))))]))) (Prod.snd (val (v50 [Prod.fst (val (v53_4 x0 x1 x2 x3)), Prod.fst (Prod.snd (val (v53_4 x0 x1 x2 x3))), Prod.fst (Prod.snd (Prod.snd (val (v53_4 x0 x1 x2 x3)))), Prod.snd (Prod.snd (Prod.snd (val (v53_4 x0 x1 x2 x3))))]))))) (some ((0 : Int), (0 : Int), (3 : Int))) (some (Prod.fst (val (v50 [Prod.fst (val (v53_4 x0 x1 x2 x3)), Prod.fst (Prod.snd (val (v53_4 x0 x1 x2 x3))), Prod.fst (Prod.snd (Prod.snd (val (v53_4 x0 x1 x2 x3)))), Prod.snd (Prod.snd (Prod.snd (val (v53_4 x0 x1 x2 x3))))])), Prod.snd (val (v50 [Prod.fst (val (v53_4 x0 x1 x2 x3)), Prod.fst (Prod.snd (val (v53_4 x0 x1 x2 x3))), Prod.fst (Prod.snd (Prod.snd (val (v53_4 x0 x1 x2 x3)))), Prod.snd (Prod.snd (Prod.snd (val (v53_4 x0 x1 x2 x3))))])), (0 : Int)))) none) none)) none)) none)
theorem ev37_4 (x0 : Int) (x1 : Int) (x2 : Int) (x3 : Int) : fnBody Try.prog (mkTn base o14 t14 37) (TM.evF Try.prog (mkTn base o14 t14) dOk 40) dOk 40 37 [.agg [.int .i64 (x0), .int .i64 (x1)], .agg [.int .i64 (x2), .int .i64 (x3)], .sc (.fn 47 0 [] [])] [] = (v37_4 x0 x1 x2 x3).bind fun r => some ([.agg [.int .i64 (r.1), .int .i64 (r.2.1)], .sc (.int .i64 (r.2.2))], []) := by
  have h : fnBody Try.prog (mkTn base o14 t14 37) (TM.evF Try.prog (mkTn base o14 t14) dOk 40) dOk 40 37 [.agg [.int .i64 (x0), .int .i64 (x1)], .agg [.int .i64 (x2), .int .i64 (x3)], .sc (.fn 47 0 [] [])] [] = (cond (ok (v27 x0 x1)) (cond (!val (v27 x0 x1)) (some ([.agg [.int .i64 ((0 : Int)), .int .i64 ((0 : Int))], .sc (.int .i64 ((1 : Int)))], [])) (cond (ok (v27 x2 x3)) (cond (!val (v27 x2 x3)) (some ([.agg [.int .i64 ((0 : Int)), .int .i64 ((0 : Int))], .sc (.int .i64 ((1 : Int)))], [])) (cond (ok (v53_4 x0 x1 x2 x3)) (cond (ok (v27 (Prod.fst (val (v50 [Prod.fst (val (v53_4 x0 x1 x2 x3)), Prod.fst (Prod.snd (val (v53_4 x0 x1 x2 x3))), Prod.fst (Prod.snd (Prod.snd (val (v53_4 x0 x1 x2 x3)))), Prod.snd (Prod.snd (Prod.snd (val (v53_4 x0 x1 x2 x3))))]))) (Prod.snd (val (v50 [Prod.fst (val (v53_4 x0 x1 x2 x3)), Prod.fst (Prod.snd (val (v53_4 x0 x1 x2 x3))), Prod.fst (Prod.snd (Prod.snd (val (v53_4 x0 x1 x2 x3)))), Prod.snd (Prod.snd (Prod.snd (val (v53_4 x0 x1 x2 x3))))]))))) (cond (!val (v27 (Prod.fst (val (v50 [Prod.fst (val (v53_4 x0 x1 x2 x3)), Prod.fst (Prod.snd (val (v53_4 x0 x1 x2 x3))), Prod.fst (Prod.snd (Prod.snd (val (v53_4 x0 x1 x2 x3)))), Prod.snd (Prod.snd (Prod.snd (val (v53_4 x0 x1 x2 x3))))]))) (Prod.snd (val (v50 [Prod.fst (val (v53_4 x0 x1 x2 x3)), Prod.fst (Prod.snd (val (v53_4 x0 x1 x2 x3))), Prod.fst (Prod.snd (Prod.snd (val (v53_4 x0 x1 x2 x3)))), Prod.snd (Prod.snd (Prod.snd (val (v53_4 x0 x1 x2 x3))))]))))) (some ([.agg [.int .i64 ((0 : Int)), .int .i64 ((0 : Int))], .sc (.int .i64 ((3 : Int)))], [])) (some ([.agg [.int .i64 (Prod.fst (val (v50 [Prod.fst (val (v53_4 x0 x1 x2 x3)), Prod.fst (Prod.snd (val (v53_4 x0 x1 x2 x3))), Prod.fst (Prod.snd (Prod.snd (val (v53_4 x0 x1 x2 x3)))), Prod.snd (Prod.snd (Prod.snd (val (v53_4 x0 x1 x2 x3))))]))), .int .i64 (Prod.snd (val (v50 [Prod.fst (val (v53_4 x0 x1 x2 x3)), Prod.fst (Prod.snd (val (v53_4 x0 x1 x2 x3))), Prod.fst (Prod.snd (Prod.snd (val (v53_4 x0 x1 x2 x3)))), Prod.snd (Prod.snd (Prod.snd (val (v53_4 x0 x1 x2 x3))))])))], .sc (.int .i64 ((0 : Int)))], []))) none) none)) none)) none) := by kernel_rfl
  rw [h]
  unfold v37_4
  cases (ok (v27 x0 x1)) with
  | true =>
    cases (!val (v27 x0 x1)) with
    | true =>
      rfl
    | false =>
      cases (ok (v27 x2 x3)) with
      | true =>
        cases (!val (v27 x2 x3)) with
        | true =>
          rfl
        | false =>
          cases (ok (v53_4 x0 x1 x2 x3)) with
          | true =>
            cases (ok (v27 (Prod.fst (val (v50 [Prod.fst (val (v53_4 x0 x1 x2 x3)), Prod.fst (Prod.snd (val (v53_4 x0 x1 x2 x3))), Prod.fst (Prod.snd (Prod.snd (val (v53_4 x0 x1 x2 x3)))), Prod.snd (Prod.snd (Prod.snd (val (v53_4 x0 x1 x2 x3))))]))) (Prod.snd (val (v50 [Prod.fst (val (v53_4 x0 x1 x2 x3)), Prod.fst (Prod.snd (val (v53_4 x0 x1 x2 x3))), Prod.fst (Prod.snd (Prod.snd (val (v53_4 x0 x1 x2 x3)))), Prod.snd (Prod.snd (Prod.snd (val (v53_4 x0 x1 x2 x3))))]))))) with
            | true =>
              cases (!val (v27 (Prod.fst (val (v50 [Prod.fst (val (v53_4 x0 x1 x2 x3)), Prod.fst (Prod.snd (val (v53_4 x0 x1 x2 x3))), Prod.fst (Prod.snd (Prod.snd (val (v53_4 x0 x1 x2 x3)))), Prod.snd (Prod.snd (Prod.snd (val (v53_4 x0 x1 x2 x3))))]))) (Prod.snd (val (v50 [Prod.fst (val (v53_4 x0 x1 x2 x3)), Prod.fst (Prod.snd (val (v53_4 x0 x1 x2 x3))), Prod.fst (Prod.snd (Prod.snd (val (v53_4 x0 x1 x2 x3)))), Prod.snd (Prod.snd (Prod.snd (val (v53_4 x0 x1 x2 x3))))]))))) with
              | true =>
                rfl
              | false =>
                rfl
            | false =>
              rfl
          | false =>
            rfl
      | false =>
        rfl
  | false =>
    rfl
def sv37_4 : OrcS := fun al H => match al, H with
  | [.agg [.int .i64 (x0), .int .i64 (x1)], .agg [.int .i64 (x2), .int .i64 (x3)], .sc (.fn 47 0 [] [])], [] => some (ok (v37_4 x0 x1 x2 x3), [.agg [.int .i64 ((val (v37_4 x0 x1 x2 x3)).1), .int .i64 ((val (v37_4 x0 x1 x2 x3)).2.1)], .sc (.int .i64 ((val (v37_4 x0 x1 x2 x3)).2.2))], [])
  | _, _ => none
theorem wv37_4 : NewOrc Try.prog dOk base o14 t14 (37, sv37_4) := by
  intro al H q hq hq1
  have hq : sv37_4 al H = some q := hq
  unfold sv37_4 at hq
  split at hq
  · cases hq
    exact ⟨41, (ev37_4 _ _ _ _).trans (ok_bind hq1)⟩
  · cases hq
def o15 : OrcT := (37, sv37_4) :: o14
def t15 : TellT := t14
abbrev tn15 : FuncId → TAn := mkTn base o15 t15
theorem ok15 : TnOk Try.prog tn15 (mkA base) dOk := by
  have h0 : TnOk Try.prog (mkTn base o14 t14) (mkA base) dOk := ok14
  have h1 := tn_orc h0 h0 (p := (37, sv37_4)) wv37_4
  exact h1
end Go.Proofs.Ytojbaamhnfinpaa
set_option maxRecDepth 1000000
set_option linter.unusedVariables false
set_option maxHeartbeats 4000000
namespace Go.Proofs.Ytojbaamhnfinpaa
open Go Go.AM Go.TM Go.Proofs
/-- interval.divided -/
def v43_1 (x0 : Int) (x1 : Int) (x2 : Int) (x3 : Int) : Option (Int × Int × Int) := (cond (ok (v27 x0 x1)) (cond (!val (v27 x0 x1)) (some ((0 : Int), (0 : Int), (1 : Int))) (cond (ok (v27 x2 x3)) (cond (!val (v27 x2 x3)) (some ((0 : Int), (0 : Int), (1 : Int))) (cond (decide (x2 ≤ (0 : Int))) (cond (decide (x3 ≥ (0 : Int))) (some ((0 : Int), (0 : Int), (14 : Int))) (cond (ok (v37_4 x0 x1 x2 x3)) (some (Prod.fst (val (v37_4 x0 x1 x2 x3)), Prod.fst (Prod.snd (val (v37_4 x0 x1 x2 x3))), Prod.snd (Prod.snd (val (v37_4 x0 x1 x2 x3))))) none)) (cond (ok (v37_4 x0 x1 x2 x3)) (some (Prod.fst (val (v37_4 x0 x1 x2 x3)), Prod.fst (Prod.snd (val (v37_4 x0 x1 x2 x3))), Prod.snd (Prod.snd (val (v37_4 x0 x1 x2 x3))))) none))) none)) none)
theorem ev43_1 (x0 : Int) (x1 : Int) (x2 : Int) (x3 : Int) : fnBody Try.prog (mkTn base o15 t15 43) (TM.evF Try.prog (mkTn base o15 t15) dOk 40) dOk 40 43 [.agg [.int .i64 (x0), .int .i64 (x1)], .agg [.int .i64 (x2), .int .i64 (x3)], .sc (.fn 47 0 [] [])] [] = (v43_1 x0 x1 x2 x3).bind fun r => some ([.agg [.int .i64 (r.1), .int .i64 (r.2.1)], .sc (.int .i64 (r.2.2))], []) := by
  have h : fnBody Try.prog (mkTn base o15 t15 43) (TM.evF Try.prog (mkTn base o15 t15) dOk 40) dOk 40 43 [.agg [.int .i64 (x0), .int .i64 (x1)], .agg [.int .i64 (x2), .int .i64 (x3)], .sc (.fn 47 0 [] [])] [] = (cond (ok (v27 x0 x1)) (cond (!val (v27 x0 x1)) (some ([.agg [.int .i64 ((0 : Int)), .int .i64 ((0 : Int))], .sc (.int .i64 ((1 : Int)))], [])) (cond (ok (v27 x2 x3)) (cond (!val (v27 x2 x3)) (some ([.agg [.int .i64 ((0 : Int)), .int .i64 ((0 : Int))], .sc (.int .i64 ((1 : Int)))], [])) (cond (decide (x2 ≤ (0 : Int))) (cond (decide (x3 ≥ (0 : Int))) (some ([.agg [.int .i64 ((0 : Int)), .int .i64 ((0 : Int))], .sc (.int .i64 ((14 : Int)))], [])) (cond (ok (v37_4 x0 x1 x2 x3)) (some ([.agg [.int .i64 (Prod.fst (val (v37_4 x0 x1 x2 x3))), .int .i64 (Prod.fst (Prod.snd (val (v37_4 x0 x1 x2 x3))))], .sc (.int .i64 (Prod.snd (Prod.snd (val (v37_4 x0 x1 x2 x3)))))], [])) none)) (cond (ok (v37_4 x0 x1 x2 x3)) (some ([.agg [.int .i64 (Prod.fst (val (v37_4 x0 x1 x2 x3))), .int .i64 (Prod.fst (Prod.snd (val (v37_4 x0 x1 x2 x3))))], .sc (.int .i64 (Prod.snd (Prod.snd (val (v37_4 x0 x1 x2 x3)))))], [])) none))) none)) none) := by kernel_rfl
  rw [h]
  unfold v43_1
  cases (ok (v27 x0 x1)) with
  | true =>
    cases (!val (v27 x0 x1)) with
    | true =>
      rfl
    | false =>
      cases (ok (v27 x2 x3)) with
      | true =>
        cases (!val (v27 x2 x3)) with
        | true =>
          rfl
        | false =>
          cases (decide (x2 ≤ (0 : Int))) with
          | true =>
            cases (decide (x3 ≥ (0 : Int))) with
            | true =>
              rfl
            | false =>
              cases (ok (v37_4 x0 x1 x2 x3)) with
              | true =>
                rfl
              | false =>
                rfl
          | false =>
            cases (ok (v37_4 x0 x1 x2 x3)) with
            | true =>
              rfl
            | false =>
              rfl
      | false =>
        rfl
  | false =>
    rfl
def sv43_1 : OrcS := fun al H => match al, H with
  | [.agg [.int .i64 (x0), .int .i64 (x1)], .agg [.int .i64 (x2), .int .i64 (x3)], .sc (.fn 47 0 [] [])], [] => some (ok (v43_1 x0 x1 x2 x3), [.agg [.int .i64 ((val (v43_1 x0 x1 x2 x3)).1), .int .i64 ((val (v43_1 x0 x1 x2 x3)).2.1)], .sc (.int .i64 ((val (v43_1 x0 x1 x2 x3)).2.2))], [])
  | _, _ => none
theorem wv43_1 : NewOrc Try.prog dOk base o15 t15 (43, sv43_1) := by
  intro al H q hq hq1
  have hq : sv43_1 al H = some q := hq
  unfold sv43_1 at hq
  split at hq
  · cases hq
    exact ⟨41, (ev43_1 _ _ _ _).trans (ok_bind hq1)⟩
  · cases hq
def o16 : OrcT := (43, sv43_1) :: o15
def t16 : TellT := t15
abbrev tn16 : FuncId → TAn := mkTn base o16 t16
theorem ok16 : TnOk Try.prog tn16 (mkA base) dOk := by
  have h0 : TnOk Try.prog (mkTn base o15 t15) (mkA base) dOk := ok15
  have h1 := tn_orc h0 h0 (p := (43, sv43_1)) wv43_1
  exact h1
end Go.Proofs.Ytojbaamhnfinpaa
set_option maxRecDepth 1000000
set_option linter.unusedVariables false
set_option maxHeartbeats 4000000
namespace Go.Proofs.Ytojbaamhnfinpaa
open Go Go.AM Go.TM Go.Proofs
/-- interval.Up -/
def v19 (x0 : Int) (x1 : Int) (x2 : Int) (x3 : Int) : Option (Int × Int × Int) := (cond (ok (v43_1 x0 x1 x2 x3)) (some (Prod.fst (val (v43_1 x0 x1 x2 x3)), Prod.fst (Prod.snd (val (v43_1 x0 x1 x2 x3))), Prod.snd (Prod.snd (val (v43_1 x0 x1 x2 x3))))) none)
theorem ev19 (x0 : Int) (x1 : Int) (x2 : Int) (x3 : Int) : fnBody Try.prog (mkTn base o16 t16 19) (TM.evF Try.prog (mkTn base o16 t16) dOk 40) dOk 40 19 [.agg [.int .i64 (x0), .int .i64 (x1)], .agg [.int .i64 (x2), .int .i64 (x3)]] [] = (v19 x0 x1 x2 x3).bind fun r => some ([.agg [.int .i64 (r.1), .int .i64 (r.2.1)], .sc (.int .i64 (r.2.2))], []) := by
  have h : fnBody Try.prog (mkTn base o16 t16 19) (TM.evF Try.prog (mkTn base o16 t16) dOk 40) dOk 40 19 [.agg [.int .i64 (x0), .int .i64 (x1)], .agg [.int .i64 (x2), .int .i64 (x3)]] [] = (cond (ok (v43_1 x0 x1 x2 x3)) (some ([.agg [.int .i64 (Prod.fst (val (v43_1 x0 x1 x2 x3))), .int .i64 (Prod.fst (Prod.snd (val (v43_1 x0 x1 x2 x3))))], .sc (.int .i64 (Prod.snd (Prod.snd (val (v43_1 x0 x1 x2 x3)))))], [])) none) := by kernel_rfl
  rw [h]
  unfold v19
  cases (ok (v43_1 x0 x1 x2 x3)) with
  | true =>
    rfl
  | false =>
    rfl
def sv19 : OrcS := fun al H => match al, H with
  | [.agg [.int .i64 (x0), .int .i64 (x1)], .agg [.int .i64 (x2), .int .i64 (x3)]], [] => some (ok (v19 x0 x1 x2 x3), [.agg [.int .i64 ((val (v19 x0 x1 x2 x3)).1), .int .i64 ((val (v19 x0 x1 x2 x3)).2.1)], .sc (.int .i64 ((val (v19 x0 x1 x2 x3)).2.2))], [])
  | _, _ => none
theorem wv19 : NewOrc Try.prog dOk base o16 t16 (19, sv19) := by
  intro al H q hq hq1
  have hq : sv19 al H = some q := hq
  unfold sv19 at hq
  split at hq
  · cases hq
    exact ⟨41, (ev19 _ _ _ _).trans (ok_bind hq1)⟩
  · cases hq
def o17 : OrcT := (19, sv19) :: o16
def t17 : TellT := t16
abbrev tn17 : FuncId → TAn := mkTn base o17 t17
theorem ok17 : TnOk Try.prog tn17 (mkA base) dOk := by
  have h0 : TnOk Try.prog (mkTn base o16 t16) (mkA base) dOk := ok16
  have h1 := tn_orc h0 h0 (p := (19, sv19)) wv19
  exact h1
end Go.Proofs.Ytojbaamhnfinpaa
set_option maxRecDepth 1000000
set_option linter.unusedVariables false
set_option maxHeartbeats 4000000
namespace Go.Proofs.Ytojbaamhnfinpaa
open Go Go.AM Go.TM Go.Proofs
/-- interval.Min$1 -/
def v48 (x0 : Int) (x1 : Int) : Option Int := (some (min x0 x1))
theorem ev48 (x0 : Int) (x1 : Int) : fnBody Try.prog (mkTn base o17 t17 48) (TM.evF Try.prog (mkTn base o17 t17) dOk 40) dOk 40 48 [.sc (.int .i64 (x0)), .sc (.int .i64 (x1))] [] = (v48 x0 x1).bind fun r => some ([.sc (.int .i64 (r))], []) := by
  have h : fnBody Try.prog (mkTn base o17 t17 48) (TM.evF Try.prog (mkTn base o17 t17) dOk 40) dOk 40 48 [.sc (.int .i64 (x0)), .sc (.int .i64 (x1))] [] = (some ([.sc (.int .i64 (min x0 x1))], [])) := by kernel_rfl
  rw [h]
  unfold v48
  rfl
def sv48 : OrcS := fun al H => match al, H with
  | [.sc (.int .i64 (x0)), .sc (.int .i64 (x1))], [] => some (ok (v48 x0 x1), [.sc (.int .i64 ((val (v48 x0 x1))))], [])
  | _, _ => none
theorem wv48 : NewOrc Try.prog dOk base o17 t17 (48, sv48) := by
  intro al H q hq hq1
  have hq : sv48 al H = some q := hq
  unfold sv48 at hq
  split at hq
  · cases hq
    exact ⟨41, (ev48 _ _).trans (ok_bind hq1)⟩
  · cases hq
def o18 : OrcT := (48, sv48) :: o17
def t18 : TellT := t17
abbrev tn18 : FuncId → TAn := mkTn base o18 t18
theorem ok18 : TnOk Try.prog tn18 (mkA base) dOk := by
  have h0 : TnOk Try.prog (mkTn base o17 t17) (mkA base) dOk := ok17
  have h1 := tn_orc h0 h0 (p := (48, sv48)) wv48
  exact h1
end Go.Proofs.Ytojbaamhnfinpaa
set_option maxRecDepth 1000000
set_option linter.unusedVariables false
set_option maxHeartbeats 4000000
namespace Go.Proofs.Ytojbaamhnfinpaa
open Go Go.AM Go.TM Go.Proofs
/-- interval.each[int] -/
def v53_5 (x0 : Int) (x1 : Int) (x2 : Int) (x3 : Int) : Option (Int × Int × Int × Int) := (some (val (v48 x0 x2), val (v48 x0 x3), val (v48 x1 x2), val (v48 x1 x3)))
theorem ev53_5 (x0 : Int) (x1 : Int) (x2 : Int) (x3 : Int) : fnBody Try.prog (mkTn base o18 t18 53) (TM.evF Try.prog (mkTn base o18 t18) dOk 40) dOk 40 53 [.agg [.int .i64 (x0), .int .i64 (x1)], .agg [.int .i64 (x2), .int .i64 (x3)], .sc (.fn 48 0 [] [])] [] = (v53_5 x0 x1 x2 x3).bind fun r => some ([.agg [.int .i64 (r.1), .int .i64 (r.2.1), .int .i64 (r.2.2.1), .int .i64 (r.2.2.2)]], []) := by
  have h : fnBody Try.prog (mkTn base o18 t18 53) (TM.evF Try.prog (mkTn base o18 t18) dOk 40) dOk 40 53 [.agg [.int .i64 (x0), .int .i64 (x1)], .agg [.int .i64 (x2), .int .i64 (x3)], .sc (.fn 48 0 [] [])] [] = (some ([.agg [.int .i64 (val (v48 x0 x2)), .int .i64 (val (v48 x0 x3)), .int .i64 (val (v48 x1 x2)), .int .i64 (val (v48 x1 x3))]], [])) := by kernel_rfl
  rw [h]
  unfold v53_5
  rfl
def sv53_5 : OrcS := fun al H => match al, H with
  | [.agg [.int .i64 (x0), .int .i64 (x1)], .agg [.int .i64 (x2), .int .i64 (x3)], .sc (.fn 48 0 [] [])], [] => some (ok (v53_5 x0 x1 x2 x3), [.agg [.int .i64 ((val (v53_5 x0 x1 x2 x3)).1), .int .i64 ((val (v53_5 x0 x1 x2 x3)).2.1), .int .i64 ((val (v53_5 x0 x1 x2 x3)).2.2.1), .int .i64 ((val (v53_5 x0 x1 x2 x3)).2.2.2)]], [])
  | _, _ => none
theorem wv53_5 : NewOrc Try.prog dOk base o18 t18 (53, sv53_5) := by
  intro al H q hq hq1
  have hq : sv53_5 al H = some q := hq
  unfold sv53_5 at hq
  split at hq
  · cases hq
    exact ⟨41, (ev53_5 _ _ _ _).trans (ok_bind hq1)⟩
  · cases hq
def o19 : OrcT := (53, sv53_5) :: o18
def t19 : TellT := t18
abbrev tn19 : FuncId → TAn := mkTn base o19 t19
theorem ok19 : TnOk Try.prog tn19 (mkA base) dOk := by
  have h0 : TnOk Try.prog (mkTn base o18 t18) (mkA base) dOk := ok18
  have h1 := tn_orc h0 h0 (p := (53, sv53_5)) wv53_5
  exact h1
end Go.Proofs.Ytojbaamhnfinpaa
set_option maxRecDepth 1000000
set_option linter.unusedVariables false
set_option maxHeartbeats 4000000
namespace Go.Proofs.Ytojbaamhnfinpaa
open Go Go.AM Go.TM Go.Proofs
/-- interval.of -/
def v37_5 (x0 : Int) (x1 : Int) (x2 : Int) (x3 : Int) : Option (Int × Int × Int) := (cond (ok (v27 x0 x1)) (cond (!val (v27 x0 x1)) (some ((0 : Int), (0 : Int), (1 : Int))) (cond (ok (v27 x2 x3)) (cond (!val (v27 x2 x3)) (some ((0 : Int), (0 : Int), (1 : Int))) (cond (ok (v27 (Prod.fst (val (v50 [Prod.fst (val (v53_5 x0 x1 x2 x3)), Prod.fst (Prod.snd (val (v53_5 x0 x1 x2 x3))), Prod.fst (Prod.snd (Prod.snd (val (v53_5 x0 x1 x2 x3)))), Prod.snd (Prod.snd (Prod.snd (val (v53_5 x0 x1 x2 x3))))]))) (Prod.snd (val (v50 [Prod.fst (val (v53_5 x0 x1 x2 x3)), Prod.fst (Prod.snd (val (v53_5 x0 x1 x2 x3))), Prod.fst (Prod.snd (Prod.snd (val (v53_5 x0 x1 x2 x3)))), Prod.snd (Prod.snd (Prod.snd (val (v53_5 x0 x1 x2 x3))))]))))) (cond (!val (v27 (Prod.fst (val (v50 [Prod.fst (val (v53_5 x0 x1 x2 x3)), Prod.fst (Prod.snd (val (v53_5 x0 x1 x2 x3))), Prod.fst (Prod.snd (Prod.snd (val (v53_5 x0 x1 x2 x3)))), Prod.snd (Prod.snd (Prod.snd (val (v53_5 x0 x1 x2 x3))))]))) (Prod.snd (val (v50 [Prod.fst (val (v53_5 x0 x1 x2 x3)), Prod.fst (Prod.snd (val (v53_5 x0 x1 x2 x3))), Prod.fst (Prod.snd (Prod.snd (val (v53_5 x0 x1 x2 x3)))), Prod.snd (Prod.snd (Prod.snd (val (v53_5 x0 x1 x2 x3))))]))))) (some ((0 : Int), (0 : Int), (3 : Int))) (some (Prod.fst (val (v50 [Prod.fst (val (v53_5 x0 x1 x2 x3)), Prod.fst (Prod.snd (val (v53_5 x0 x1 x2 x3))), Prod.fst (Prod.snd (Prod.snd (val (v53_5 x0 x1 x2 x3)))), Prod.snd (Prod.snd (Prod.snd (val (v53_5 x0 x1 x2 x3))))])), Prod.snd (val (v50 [Prod.fst (val (v53_5 x0 x1 x2 x3)), Prod.fst (Prod.snd (val (v53_5 x0 x1 x2 x3))), Prod.fst (Prod.snd (Prod.snd (val (v53_5 x0 x1 x2 x3)))), Prod.snd (Prod.snd (Prod.snd (val (v53_5 x0 x1 x2 x3))))])), (0 : Int)))) none)) none)) none)
theorem ev37_5 (x0 : Int) (x1 : Int) (x2 : Int) (x3 : Int) : fnBody Try.prog (mkTn base o19 t19 37) (TM.evF Try.prog (mkTn base o19 t19) dOk 40) dOk 40 37 [.agg [.int .i64 (x0), .int .i64 (x1)], .agg [.int .i64 (x2), .int .i64 (x3)], .sc (.fn 48 0 [] [])] [] = (v37_5 x0 x1 x2 x3).bind fun r => some ([.agg [.int .i64 (r.1), .int .i64 (r.2.1)], .sc (.int .i64 (r.2.2))], []) := by
  have h : fnBody Try.prog (mkTn base o19 t19 37) (TM.evF Try.prog (mkTn base o19 t19) dOk 40) dOk 40 37 [.agg [.int .i64 (x0), .int .i64 (x1)], .agg [.int .i64 (x2), .int .i64 (x3)], .sc (.fn 48 0 [] [])] [] = (cond (ok (v27 x0 x1)) (cond (!val (v27 x0 x1)) (some ([.agg [.int .i64 ((0 : Int)), .int .i64 ((0 : Int))], .sc (.int .i64 ((1 : Int)))], [])) (cond (ok (v27 x2 x3)) (cond (!val (v27 x2 x3)) (some ([.agg [.int .i64 ((0 : Int)), .int .i64 ((0 : Int))], .sc (.int .i64 ((1 : Int)))], [])) (cond (ok (v27 (Prod.fst (val (v50 [Prod.fst (val (v53_5 x0 x1 x2 x3)), Prod.fst (Prod.snd (val (v53_5 x0 x1 x2 x3))), Prod.fst (Prod.snd (Prod.snd (val (v53_5 x0 x1 x2 x3)))), Prod.snd (Prod.snd (Prod.snd (val (v53_5 x0 x1 x2 x3))))]))) (Prod.snd (val (v50 [Prod.fst (val (v53_5 x0 x1 x2 x3)), Prod.fst (Prod.snd (val (v53_5 x0 x1 x2 x3))), Prod.fst (Prod.snd (Prod.snd (val (v53_5 x0 x1 x2 x3)))), Prod.snd (Prod.snd (Prod.snd (val (v53_5 x0 x1 x2 x3))))]))))) (cond (!val (v27 (Prod.fst (val (v50 [Prod.fst (val (v53_5 x0 x1 x2 x3)), Prod.fst (Prod.snd (val (v53_5 x0 x1 x2 x3))), Prod.fst (Prod.snd (Prod.snd (val (v53_5 x0 x1 x2 x3)))), Prod.snd (Prod.snd (Prod.snd (val (v53_5 x0 x1 x2 x3))))]))) (Prod.snd (val (v50 [Prod.fst (val (v53_5 x0 x1 x2 x3)), Prod.fst (Prod.snd (val (v53_5 x0 x1 x2 x3))), Prod.fst (Prod.snd (Prod.snd (val (v53_5 x0 x1 x2 x3)))), Prod.snd (Prod.snd (Prod.snd (val (v53_5 x0 x1 x2 x3))))]))))) (some ([.agg [.int .i64 ((0 : Int)), .int .i64 ((0 : Int))], .sc (.int .i64 ((3 : Int)))], [])) (some ([.agg [.int .i64 (Prod.fst (val (v50 [Prod.fst (val (v53_5 x0 x1 x2 x3)), Prod.fst (Prod.snd (val (v53_5 x0 x1 x2 x3))), Prod.fst (Prod.snd (Prod.snd (val (v53_5 x0 x1 x2 x3)))), Prod.snd (Prod.snd (Prod.snd (val (v53_5 x0 x1 x2 x3))))]))), .int .i64 (Prod.snd (val (v50 [Prod.fst (val (v53_5 x0 x1 x2 x3)), Prod.fst (Prod.snd (val (v53_5 x0 x1 x2 x3))), Prod.fst (Prod.snd (Prod.snd (val (v53_5 x0 x1 x2 x3)))), Prod.snd (Prod.snd (Prod.snd (val (v53_5 x0 x1 x2 x3))))])))], .sc (.int .i64 ((0 : Int)))], []))) none)) none)) none) := by kernel_rfl
  rw [h]
  unfold v37_5
  cases (ok (v27 x0 x1)) with
  | true =>
    cases (!val (v27 x0 x1)) with
    | true =>
      rfl
    | false =>
      cases (ok (v27 x2 x3)) with
      | true =>
        cases (!val (v27 x2 x3)) with
        | true =>
          rfl
        | false =>
          cases (ok (v27 (Prod.fst (val (v50 [Prod.fst (val (v53_5 x0 x1 x2 x3)), Prod.fst (Prod.snd (val (v53_5 x0 x1 x2 x3))), Prod.fst (Prod.snd (Prod.snd (val (v53_5 x0 x1 x2 x3)))), Prod.snd (Prod.snd (Prod.snd (val (v53_5 x0 x1 x2 x3))))]))) (Prod.snd (val (v50 [Prod.fst (val (v53_5 x0 x1 x2 x3)), Prod.fst (Prod.snd (val (v53_5 x0 x1 x2 x3))), Prod.fst (Prod.snd (Prod.snd (val (v53_5 x0 x1 x2 x3)))), Prod.snd (Prod.snd (Prod.snd (val (v53_5 x0 x1 x2 x3))))]))))) with
          | true =>
            cases (!val (v27 (Prod.fst (val (v50 [Prod.fst (val (v53_5 x0 x1 x2 x3)), Prod.fst (Prod.snd (val (v53_5 x0 x1 x2 x3))), Prod.fst (Prod.snd (Prod.snd (val (v53_5 x0 x1 x2 x3)))), Prod.snd (Prod.snd (Prod.snd (val (v53_5 x0 x1 x2 x3))))]))) (Prod.snd (val (v50 [Prod.fst (val (v53_5 x0 x1 x2 x3)), Prod.fst (Prod.snd (val (v53_5 x0 x1 x2 x3))), Prod.fst (Prod.snd (Prod.snd (val (v53_5 x0 x1 x2 x3)))), Prod.snd (Prod.snd (Prod.snd (val (v53_5 x0 x1 x2 x3))))]))))) with
            | true =>
              rfl
            | false =>
              rfl
          | false =>
            rfl
      | false =>
        rfl
  | false =>
    rfl
def sv37_5 : OrcS := fun al H => match al, H with
  | [.agg [.int .i64 (x0), .int .i64 (x1)], .agg [.int .i64 (x2), .int .i64 (x3)], .sc (.fn 48 0 [] [])], [] => some (ok (v37_5 x0 x1 x2 x3), [.agg [.int .i64 ((val (v37_5 x0 x1 x2 x3)).1), .int .i64 ((val (v37_5 x0 x1 x2 x3)).2.1)], .sc (.int .i64 ((val (v37_5 x0 x1 x2 x3)).2.2))], [])
  | _, _ => none
theorem wv37_5 : NewOrc Try.prog dOk base o19 t19 (37, sv37_5) := by
  intro al H q hq hq1
  have hq : sv37_5 al H = some q := hq
  unfold sv37_5 at hq
  split at hq
  · cases hq
    exact ⟨41, (ev37_5 _ _ _ _).trans (ok_bind hq1)⟩
  · cases hq
def o20 : OrcT := (37, sv37_5) :: o19
def t20 : TellT := t19
abbrev tn20 : FuncId → TAn := mkTn base o20 t20
theorem ok20 : TnOk Try.prog tn20 (mkA base) dOk := by
  have h0 : TnOk Try.prog (mkTn base o19 t19) (mkA base) dOk := ok19
  have h1 := tn_orc h0 h0 (p := (37, sv37_5)) wv37_5
  exact h1
end Go.Proofs.Ytojbaamhnfinpaa
set_option maxRecDepth 1000000
set_option linter.unusedVariables false
set_option maxHeartbeats 4000000
namespace Go.Proofs.Ytojbaamhnfinpaa
open Go Go.AM Go.TM Go.Proofs
/-- interval.Min -/
def v21 (x0 : Int) (x1 : Int) (x2 : Int) (x3 : Int) : Option (Int × Int × Int) := (cond (ok (v37_5 x0 x1 x2 x3)) (some (Prod.fst (val (v37_5 x0 x1 x2 x3)), Prod.fst (Prod.snd (val (v37_5 x0 x1 x2 x3))), Prod.snd (Prod.snd (val (v37_5 x0 x1 x2 x3))))) none)
theorem ev21 (x0 : Int) (x1 : Int) (x2 : Int) (x3 : Int) : fnBody Try.prog (mkTn base o20 t20 21) (TM.evF Try.prog (mkTn base o20 t20) dOk 40) dOk 40 21 [.agg [.int .i64 (x0), .int .i64 (x1)], .agg [.int .i64 (x2), .int .i64 (x3)]] [] = (v21 x0 x1 x2 x3).bind fun r => some ([.agg [.int .i64 (r.1), .int .i64 (r.2.1)], .sc (.int .i64 (r.2.2))], []) := by
  have h : fnBody Try.prog (mkTn base o20 t20 21) (TM.evF Try.prog (mkTn base o20 t20) dOk 40) dOk 40 21 [.agg [.int .i64 (x0), .int .i64 (x1)], .agg [.int .i64 (x2), .int .i64 (x3)]] [] = (cond (ok (v37_5 x0 x1 x2 x3)) (some ([.agg [.int .i64 (Prod.fst (val (v37_5 x0 x1 x2 x3))), .int .i64 (Prod.fst (Prod.snd (val (v37_5 x0 x1 x2 x3))))], .sc (.int .i64 (Prod.snd (Prod.snd (val (v37_5 x0 x1 x2 x3)))))], [])) none) := by kernel_rfl
  rw [h]
  unfold v21
  cases (ok (v37_5 x0 x1 x2 x3)) with
  | true =>
    rfl
  | false =>
    rfl
def sv21 : OrcS := fun al H => match al, H with
  | [.agg [.int .i64 (x0), .int .i64 (x1)], .agg [.int .i64 (x2), .int .i64 (x3)]], [] => some (ok (v21 x0 x1 x2 x3), [.agg [.int .i64 ((val (v21 x0 x1 x2 x3)).1), .int .i64 ((val (v21 x0 x1 x2 x3)).2.1)], .sc (.int .i64 ((val (v21 x0 x1 x2 x3)).2.2))], [])
  | _, _ => none
theorem wv21 : NewOrc Try.prog dOk base o20 t20 (21, sv21) := by
  intro al H q hq hq1
  have hq : sv21 al H = some q := hq
  unfold sv21 at hq
  split at hq
  · cases hq
    exact ⟨41, (ev21 _ _ _ _).trans (ok_bind hq1)⟩
  · cases hq
def o21 : OrcT := (21, sv21) :: o20
def t21 : TellT := t20
abbrev tn21 : FuncId → TAn := mkTn base o21 t21
theorem ok21 : TnOk Try.prog tn21 (mkA base) dOk := by
  have h0 : TnOk Try.prog (mkTn base o20 t20) (mkA base) dOk := ok20
  have h1 := tn_orc h0 h0 (p := (21, sv21)) wv21
  exact h1
end Go.Proofs.Ytojbaamhnfinpaa
set_option maxRecDepth 1000000
set_option linter.unusedVariables false
set_option maxHeartbeats 4000000
namespace Go.Proofs.Ytojbaamhnfinpaa
open Go Go.AM Go.TM Go.Proofs
/-- interval.Max$1 -/
def v49 (x0 : Int) (x1 : Int) : Option Int := (some (max x0 x1))
theorem ev49 (x0 : Int) (x1 : Int) : fnBody Try.prog (mkTn base o21 t21 49) (TM.evF Try.prog (mkTn base o21 t21) dOk 40) dOk 40 49 [.sc (.int .i64 (x0)), .sc (.int .i64 (x1))] [] = (v49 x0 x1).bind fun r => some ([.sc (.int .i64 (r))], []) := by
  have h : fnBody Try.prog (mkTn base o21 t21 49) (TM.evF Try.prog (mkTn base o21 t21) dOk 40) dOk 40 49 [.sc (.int .i64 (x0)), .sc (.int .i64 (x1))] [] = (some ([.sc (.int .i64 (max x0 x1))], [])) := by kernel_rfl
  rw [h]
  unfold v49
  rfl
def sv49 : OrcS := fun al H => match al, H with
  | [.sc (.int .i64 (x0)), .sc (.int .i64 (x1))], [] => some (ok (v49 x0 x1), [.sc (.int .i64 ((val (v49 x0 x1))))], [])
  | _, _ => none
theorem wv49 : NewOrc Try.prog dOk base o21 t21 (49, sv49) := by
  intro al H q hq hq1
  have hq : sv49 al H = some q := hq
  unfold sv49 at hq
  split at hq
  · cases hq
    exact ⟨41, (ev49 _ _).trans (ok_bind hq1)⟩
  · cases hq
def o22 : OrcT := (49, sv49) :: o21
def t22 : TellT := t21
abbrev tn22 : FuncId → TAn := mkTn base o22 t22
theorem ok22 : TnOk Try.prog tn22 (mkA base) dOk := by
  have h0 : TnOk Try.prog (mkTn base o21 t21) (mkA base) dOk := ok21
  have h1 := tn_orc h0 h0 (p := (49, sv49)) wv49
  exact h1
end Go.Proofs.Ytojbaamhnfinpaa
set_option maxRecDepth 1000000
set_option linter.unusedVariables false
set_option maxHeartbeats 4000000
namespace Go.Proofs.Ytojbaamhnfinpaa
open Go Go.AM Go.TM Go.Proofs
/-- interval.each[int] -/
def v53_6 (x0 : Int) (x1 : Int) (x2 : Int) (x3 : Int) : Option (Int × Int × Int × Int) := (some (val (v49 x0 x2), val (v49 x0 x3), val (v49 x1 x2), val (v49 x1 x3)))
theorem ev53_6 (x0 : Int) (x1 : Int) (x2 : Int) (x3 : Int) : fnBody Try.prog (mkTn base o22 t22 53) (TM.evF Try.prog (mkTn base o22 t22) dOk 40) dOk 40 53 [.agg [.int .i64 (x0), .int .i64 (x1)], .agg [.int .i64 (x2), .int .i64 (x3)], .sc (.fn 49 0 [] [])] [] = (v53_6 x0 x1 x2 x3).bind fun r => some ([.agg [.int .i64 (r.1), .int .i64 (r.2.1), .int .i64 (r.2.2.1), .int .i64 (r.2.2.2)]], []) := by
  have h : fnBody Try.prog (mkTn base o22 t22 53) (TM.evF Try.prog (mkTn base o22 t22) dOk 40) dOk 40 53 [.agg [.int .i64 (x0), .int .i64 (x1)], .agg [.int .i64 (x2), .int .i64 (x3)], .sc (.fn 49 0 [] [])] [] = (some ([.agg [.int .i64 (val (v49 x0 x2)), .int .i64 (val (v49 x0 x3)), .int .i64 (val (v49 x1 x2)), .int .i64 (val (v49 x1 x3))]], [])) := by kernel_rfl
  rw [h]
  unfold v53_6
  rfl
def sv53_6 : OrcS := fun al H => match al, H with
  | [.agg [.int .i64 (x0), .int .i64 (x1)], .agg [.int .i64 (x2), .int .i64 (x3)], .sc (.fn 49 0 [] [])], [] => some (ok (v53_6 x0 x1 x2 x3), [.agg [.int .i64 ((val (v53_6 x0 x1 x2 x3)).1), .int .i64 ((val (v53_6 x0 x1 x2 x3)).2.1), .int .i64 ((val (v53_6 x0 x1 x2 x3)).2.2.1), .int .i64 ((val (v53_6 x0 x1 x2 x3)).2.2.2)]], [])
  | _, _ => none
theorem wv53_6 : NewOrc Try.prog dOk base o22 t22 (53, sv53_6) := by
  intro al H q hq hq1
  have hq : sv53_6 al H = some q := hq
  unfold sv53_6 at hq
  split at hq
  · cases hq
    exact ⟨41, (ev53_6 _ _ _ _).trans (ok_bind hq1)⟩
  · cases hq
def o23 : OrcT := (53, sv53_6) :: o22
def t23 : TellT := t22
abbrev tn23 : FuncId → TAn := mkTn base o23 t23
theorem ok23 : TnOk Try.prog tn23 (mkA base) dOk := by
  have h0 : TnOk Try.prog (mkTn base o22 t22) (mkA base) dOk := ok22
  have h1 := tn_orc h0 h0 (p := (53, sv53_6)) wv53_6
  exact h1
end Go.Proofs.Ytojbaamhnfinpaa
set_option maxRecDepth 1000000
set_option linter.unusedVariables false
set_option maxHeartbeats 4000000
namespace Go.Proofs.Ytojbaamhnfinpaa
open Go Go.AM Go.TM Go.Proofs
/-- interval.of -/
def v37_6 (x0 : Int) (x1 : Int) (x2 : Int) (x3 : Int) : Option (Int × Int × Int) := (cond (ok (v27 x0 x1)) (cond (!val (v27 x0 x1)) (some ((0 : Int), (0 : Int), (1 : Int))) (cond (ok (v27 x2 x3)) (cond (!val (v27 x2 x3)) (some ((0 : Int), (0 : Int), (1 : Int))) (cond (ok (v27 (Prod.fst (val (v50 [Prod.fst (val (v53_6 x0 x1 x2 x3)), Prod.fst (Prod.snd (val (v53_6 x0 x1 x2 x3))), Prod.fst (Prod.snd (Prod.snd (val (v53_6 x0 x1 x2 x3)))), Prod.snd (Prod.snd (Prod.snd (val (v53_6 x0 x1 x2 x3))))]))) (Prod.snd (val (v50 [Prod.fst (val (v53_6 x0 x1 x2 x3)), Prod.fst (Prod.snd (val (v53_6 x0 x1 x2 x3))), Prod.fst (Prod.snd (Prod.snd (val (v53_6 x0 x1 x2 x3)))), Prod.snd (Prod.snd (Prod.snd (val (v53_6 x0 x1 x2 x3))))]))))) (cond (!val (v27 (Prod.fst (val (v50 [Prod.fst (val (v53_6 x0 x1 x2 x3)), Prod.fst (Prod.snd (val (v53_6 x0 x1 x2 x3))), Prod.fst (Prod.snd (Prod.snd (val (v53_6 x0 x1 x2 x3)))), Prod.snd (Prod.snd (Prod.snd (val (v53_6 x0 x1 x2 x3))))]))) (Prod.snd (val (v50 [Prod.fst (val (v53_6 x0 x1 x2 x3)), Prod.fst (Prod.snd (val (v53_6 x0 x1 x2 x3))), Prod.fst (Prod.snd (Prod.snd (val (v53_6 x0 x1 x2 x3)))), Prod.snd (Prod.snd (Prod.snd (val (v53_6 x0 x1 x2 x3))))]))))) (some ((0 : Int), (0 : Int), (3 : Int))) (some (Prod.fst (val (v50 [Prod.fst (val (v53_6 x0 x1 x2 x3)), Prod.fst (Prod.snd (val (v53_6 x0 x1 x2 x3))), Prod.fst (Prod.snd (Prod.snd (val (v53_6 x0 x1 x2 x3)))), Prod.snd (Prod.snd (Prod.snd (val (v53_6 x0 x1 x2 x3))))])), Prod.snd (val (v50 [Prod.fst (val (v53_6 x0 x1 x2 x3)), Prod.fst (Prod.snd (val (v53_6 x0 x1 x2 x3))), Prod.fst (Prod.snd (Prod.snd (val (v53_6 x0 x1 x2 x3)))), Prod.snd (Prod.snd (Prod.snd (val (v53_6 x0 x1 x2 x3))))])), (0 : Int)))) none)) none)) none)
theorem ev37_6 (x0 : Int) (x1 : Int) (x2 : Int) (x3 : Int) : fnBody Try.prog (mkTn base o23 t23 37) (TM.evF Try.prog (mkTn base o23 t23) dOk 40) dOk 40 37 [.agg [.int .i64 (x0), .int .i64 (x1)], .agg [.int .i64 (x2), .int .i64 (x3)], .sc (.fn 49 0 [] [])] [] = (v37_6 x0 x1 x2 x3).bind fun r => some ([.agg [.int .i64 (r.1), .int .i64 (r.2.1)], .sc (.int .i64 (r.2.2))], []) := by
  have h : fnBody Try.prog (mkTn base o23 t23 37) (TM.evF Try.prog (mkTn base o23 t23) dOk 40) dOk 40 37 [.agg [.int .i64 (x0), .int .i64 (x1)], .agg [.int .i64 (x2), .int .i64 (x3)], .sc (.fn 49 0 [] [])] [] = (cond (ok (v27 x0 x1)) (cond (!val (v27 x0 x1)) (some ([.agg [.int .i64 ((0 : Int)), .int .i64 ((0 : Int))], .sc (.int .i64 ((1 : Int)))], [])) (cond (ok (v27 x2 x3)) (cond (!val (v27 x2 x3)) (some ([.agg [.int .i64 ((0 : Int)), .int .i64 ((0 : Int))], .sc (.int .i64 ((1 : Int)))], [])) (cond (ok (v27 (Prod.fst (val (v50 [Prod.fst (val (v53_6 x0 x1 x2 x3)), Prod.fst (Prod.snd (val (v53_6 x0 x1 x2 x3))), Prod.fst (Prod.snd (Prod.snd (val (v53_6 x0 x1 x2 x3)))), Prod.snd (Prod.snd (Prod.snd (val (v53_6 x0 x1 x2 x3))))]))) (Prod.snd (val (v50 [Prod.fst (val (v53_6 x0 x1 x2 x3)), Prod.fst (Prod.snd (val (v53_6 x0 x1 x2 x3))), Prod.fst (Prod.snd (Prod.snd (val (v53_6 x0 x1 x2 x3)))), Prod.snd (Prod.snd (Prod.snd (val (v53_6 x0 x1 x2 x3))))]))))) (cond (!val (v27 (Prod.fst (val (v50 [Prod.fst (val (v53_6 x0 x1 x2 x3)), Prod.fst (Prod.snd (val (v53_6 x0 x1 x2 x3))), Prod.fst (Prod.snd (Prod.snd (val (v53_6 x0 x1 x2 x3)))), Prod.snd (Prod.snd (Prod.snd (val (v53_6 x0 x1 x2 x3))))]))) (Prod.snd (val (v50 [Prod.fst (val (v53_6 x0 x1 x2 x3)), Prod.fst (Prod.snd (val (v53_6 x0 x1 x2 x3))), Prod.fst (Prod.snd (Prod.snd (val (v53_6 x0 x1 x2 x3)))), Prod.snd (Prod.snd (Prod.snd (val (v53_6 x0 x1 x2 x3))))]))))) (some ([.agg [.int .i64 ((0 : Int)), .int .i64 ((0 : Int))], .sc (.int .i64 ((3 : Int)))], [])) (some ([.agg [.int .i64 (Prod.fst (val (v50 [Prod.fst (val (v53_6 x0 x1 x2 x3)), Prod.fst (Prod.snd (val (v53_6 x0 x1 x2 x3))), Prod.fst (Prod.snd (Prod.snd (val (v53_6 x0 x1 x2 x3)))), Prod.snd (Prod.snd (Prod.snd (val (v53_6 x0 x1 x2 x3))))]))), .int .i64 (Prod.snd (val (v50 [Prod.fst (val (v53_6 x0 x1 x2 x3)), Prod.fst (Prod.snd (val (v53_6 x0 x1 x2 x3))), Prod.fst (Prod.snd (Prod.snd (val (v53_6 x0 x1 x2 x3)))), Prod.snd (Prod.snd (Prod.snd (val (v53_6 x0 x1 x2 x3))))])))], .sc (.int .i64 ((0 : Int)))], []))) none)) none)) none) := by kernel_rfl
  rw [h]
  unfold v37_6
  cases (ok (v27 x0 x1)) with
  | true =>
    cases (!val (v27 x0 x1)) with
    | true =>
      rfl
    | false =>
      cases (ok (v27 x2 x3)) with
      | true =>
        cases (!val (v27 x2 x3)) with
        | true =>
          rfl
        | false =>
          cases (ok (v27 (Prod.fst (val (v50 [Prod.fst (val (v53_6 x0 x1 x2 x3)), Prod.fst (Prod.snd (val (v53_6 x0 x1 x2 x3))), Prod.fst (Prod.snd (Prod.snd (val (v53_6 x0 x1 x2 x3)))), Prod.snd (Prod.snd (Prod.snd (val (v53_6 x0 x1 x2 x3))))]))) (Prod.snd (val (v50 [Prod.fst (val (v53_6 x0 x1 x2 x3)), Prod.fst (Prod.snd (val (v53_6 x0 x1 x2 x3))), Prod.fst (Prod.snd (Prod.snd (val (v53_6 x0 x1 x2 x3)))), Prod.snd (Prod.snd (Prod.snd (val (v53_6 x0 x1 x2 x3))))]))))) with
          | true =>
            cases (!val (v27 (Prod.fst (val (v50 [Prod.fst (val (v53_6 x0 x1 x2 x3)), Prod.fst (Prod.snd (val (v53_6 x0 x1 x2 x3))), Prod.fst (Prod.snd (Prod.snd (val (v53_6 x0 x1 x2 x3)))), Prod.snd (Prod.snd (Prod.snd (val (v53_6 x0 x1 x2 x3))))]))) (Prod.snd (val (v50 [Prod.fst (val (v53_6 x0 x1 x2 x3)), Prod.fst (Prod.snd (val (v53_6 x0 x1 x2 x3))), Prod.fst (Prod.snd (Prod.snd (val (v53_6 x0 x1 x2 x3)))), Prod.snd (Prod.snd (Prod.snd (val (v53_6 x0 x1 x2 x3))))]))))) with
            | true =>
              rfl
            | false =>
              rfl
          | false =>
            rfl
      | false =>
        rfl
  | false =>
    rfl
def sv37_6 : OrcS := fun al H => match al, H with
  | [.agg [.int .i64 (x0), .int .i64 (x1)], .agg [.int .i64 (x2), .int .i64 (x3)], .sc (.fn 49 0 [] [])], [] => some (ok (v37_6 x0 x1 x2 x3), [.agg [.int .i64 ((val (v37_6 x0 x1 x2 x3)).1), .int .i64 ((val (v37_6 x0 x1 x2 x3)).2.1)], .sc (.int .i64 ((val (v37_6 x0 x1 x2 x3)).2.2))], [])
  | _, _ => none
theorem wv37_6 : NewOrc Try.prog dOk base o23 t23 (37, sv37_6) := by
  intro al H q hq hq1
  have hq : sv37_6 al H = some q := hq
  unfold sv37_6 at hq
  split at hq
  · cases hq
    exact ⟨41, (ev37_6 _ _ _ _).trans (ok_bind hq1)⟩
  · cases hq
def o24 : OrcT := (37, sv37_6) :: o23
def t24 : TellT := t23
abbrev tn24 : FuncId → TAn := mkTn base o24 t24
theorem ok24 : TnOk Try.prog tn24 (mkA base) dOk := by
  have h0 : TnOk Try.prog (mkTn base o23 t23) (mkA base) dOk := ok23
  have h1 := tn_orc h0 h0 (p := (37, sv37_6)) wv37_6
  exact h1
end Go.Proofs.Ytojbaamhnfinpaa
set_option maxRecDepth 1000000
set_option linter.unusedVariables false
set_option maxHeartbeats 4000000
namespace Go.Proofs.Ytojbaamhnfinpaa
open Go Go.AM Go.TM Go.Proofs
/-- interval.Max -/
def v23 (x0 : Int) (x1 : Int) (x2 : Int) (x3 : Int) : Option (Int × Int × Int) := (cond (ok (v37_6 x0 x1 x2 x3)) (some (Prod.fst (val (v37_6 x0 x1 x2 x3)), Prod.fst (Prod.snd (val (v37_6 x0 x1 x2 x3))), Prod.snd (Prod.snd (val (v37_6 x0 x1 x2 x3))))) none)
theorem ev23 (x0 : Int) (x1 : Int) (x2 : Int) (x3 : Int) : fnBody Try.prog (mkTn base o24 t24 23) (TM.evF Try.prog (mkTn base o24 t24) dOk 40) dOk 40 23 [.agg [.int .i64 (x0), .int .i64 (x1)], .agg [.int .i64 (x2), .int .i64 (x3)]] [] = (v23 x0 x1 x2 x3).bind fun r => some ([.agg [.int .i64 (r.1), .int .i64 (r.2.1)], .sc (.int .i64 (r.2.2))], []) := by
  have h : fnBody Try.prog (mkTn base o24 t24 23) (TM.evF Try.prog (mkTn base o24 t24) dOk 40) dOk 40 23 [.agg [.int .i64 (x0), .int .i64 (x1)], .agg [.int .i64 (x2), .int .i64 (x3)]] [] = (cond (ok (v37_6 x0 x1 x2 x3)) (some ([.agg [.int .i64 (Prod.fst (val (v37_6 x0 x1 x2 x3))), .int .i64 (Prod.fst (Prod.snd (val (v37_6 x0 x1 x2 x3))))], .sc (.int .i64 (Prod.snd (Prod.snd (val (v37_6 x0 x1 x2 x3)))))], [])) none) := by kernel_rfl
  rw [h]
  unfold v23
  cases (ok (v37_6 x0 x1 x2 x3)) with
  | true =>
    rfl
  | false =>
    rfl
def sv23 : OrcS := fun al H => match al, H with
  | [.agg [.int .i64 (x0), .int .i64 (x1)], .agg [.int .i64 (x2), .int .i64 (x3)]], [] => some (ok (v23 x0 x1 x2 x3), [.agg [.int .i64 ((val (v23 x0 x1 x2 x3)).1), .int .i64 ((val (v23 x0 x1 x2 x3)).2.1)], .sc (.int .i64 ((val (v23 x0 x1 x2 x3)).2.2))], [])
  | _, _ => none
theorem wv23 : NewOrc Try.prog dOk base o24 t24 (23, sv23) := by
  intro al H q hq hq1
  have hq : sv23 al H = some q := hq
  unfold sv23 at hq
  split at hq
  · cases hq
    exact ⟨41, (ev23 _ _ _ _).trans (ok_bind hq1)⟩
  · cases hq
def o25 : OrcT := (23, sv23) :: o24
def t25 : TellT := t24
abbrev tn25 : FuncId → TAn := mkTn base o25 t25
theorem ok25 : TnOk Try.prog tn25 (mkA base) dOk := by
  have h0 : TnOk Try.prog (mkTn base o24 t24) (mkA base) dOk := ok24
  have h1 := tn_orc h0 h0 (p := (23, sv23)) wv23
  exact h1
end Go.Proofs.Ytojbaamhnfinpaa
set_option maxRecDepth 1000000
set_option linter.unusedVariables false
set_option maxHeartbeats 4000000
namespace Go.Proofs.Ytojbaamhnfinpaa
open Go Go.AM Go.TM Go.Proofs
/-- queuelablaw06.head -/
def v10 : Option Bool := (some (true))
theorem ev10 : fnBody Try.prog (mkTn base o25 t25 10) (TM.evF Try.prog (mkTn base o25 t25) dOk 40) dOk 40 10 [] [] = (v10).bind fun r => some ([.sc (.bool (r))], []) := by
  have h : fnBody Try.prog (mkTn base o25 t25 10) (TM.evF Try.prog (mkTn base o25 t25) dOk 40) dOk 40 10 [] [] = (some ([.sc (.bool (true))], [])) := by kernel_rfl
  rw [h]
  unfold v10
  rfl
def sv10 : OrcS := fun al H => match al, H with
  | [], [] => some (ok (v10), [.sc (.bool ((val (v10))))], [])
  | _, _ => none
theorem wv10 : NewOrc Try.prog dOk base o25 t25 (10, sv10) := by
  intro al H q hq hq1
  have hq : sv10 al H = some q := hq
  unfold sv10 at hq
  split at hq
  · cases hq
    exact ⟨41, (ev10 ).trans (ok_bind hq1)⟩
  · cases hq
def o26 : OrcT := (10, sv10) :: o25
def t26 : TellT := t25
abbrev tn26 : FuncId → TAn := mkTn base o26 t26
theorem ok26 : TnOk Try.prog tn26 (mkA base) dOk := by
  have h0 : TnOk Try.prog (mkTn base o25 t25) (mkA base) dOk := ok25
  have h1 := tn_orc h0 h0 (p := (10, sv10)) wv10
  exact h1
end Go.Proofs.Ytojbaamhnfinpaa
set_option maxRecDepth 1000000
set_option linter.unusedVariables false
set_option maxHeartbeats 4000000
namespace Go.Proofs.Ytojbaamhnfinpaa
open Go Go.AM Go.TM Go.Proofs
/-- queuelabref06.Value -/
def v35 (x0 : Int) : Option Bool := (cond (decide (x0 ≥ (-1000000000000 : Int))) (some (decide (x0 ≤ (1000000000000 : Int)))) (some (false)))
theorem ev35 (x0 : Int) : fnBody Try.prog (mkTn base o26 t26 35) (TM.evF Try.prog (mkTn base o26 t26) dOk 40) dOk 40 35 [.sc (.int .i64 (x0))] [] = (v35 x0).bind fun r => some ([.sc (.bool (r))], []) := by
  have h : fnBody Try.prog (mkTn base o26 t26 35) (TM.evF Try.prog (mkTn base o26 t26) dOk 40) dOk 40 35 [.sc (.int .i64 (x0))] [] = (cond (decide (x0 ≥ (-1000000000000 : Int))) (some ([.sc (.bool (decide (x0 ≤ (1000000000000 : Int))))], [])) (some ([.sc (.bool (false))], []))) := by kernel_rfl
  rw [h]
  unfold v35
  cases (decide (x0 ≥ (-1000000000000 : Int))) with
  | true =>
    rfl
  | false =>
    rfl
def sv35 : OrcS := fun al H => match al, H with
  | [.sc (.int .i64 (x0))], [] => some (ok (v35 x0), [.sc (.bool ((val (v35 x0))))], [])
  | _, _ => none
theorem wv35 : NewOrc Try.prog dOk base o26 t26 (35, sv35) := by
  intro al H q hq hq1
  have hq : sv35 al H = some q := hq
  unfold sv35 at hq
  split at hq
  · cases hq
    exact ⟨41, (ev35 _).trans (ok_bind hq1)⟩
  · cases hq
def o27 : OrcT := (35, sv35) :: o26
def t27 : TellT := t26
abbrev tn27 : FuncId → TAn := mkTn base o27 t27
theorem ok27 : TnOk Try.prog tn27 (mkA base) dOk := by
  have h0 : TnOk Try.prog (mkTn base o26 t26) (mkA base) dOk := ok26
  have h1 := tn_orc h0 h0 (p := (35, sv35)) wv35
  exact h1
end Go.Proofs.Ytojbaamhnfinpaa
set_option maxRecDepth 1000000
set_option linter.unusedVariables false
set_option maxHeartbeats 4000000
namespace Go.Proofs.Ytojbaamhnfinpaa
open Go Go.AM Go.TM Go.Proofs
/-- queuelabref06.Valid -/
def v28 (x0 : Int) (x1 : Int) : Option Bool := (cond (ok (v35 x0)) (cond (val (v35 x0)) (cond (ok (v35 x1)) (cond (val (v35 x1)) (some (decide (x0 ≤ x1))) (some (false))) none) (some (false))) none)
theorem ev28 (x0 : Int) (x1 : Int) : fnBody Try.prog (mkTn base o27 t27 28) (TM.evF Try.prog (mkTn base o27 t27) dOk 40) dOk 40 28 [.agg [.int .i64 (x0), .int .i64 (x1)]] [] = (v28 x0 x1).bind fun r => some ([.sc (.bool (r))], []) := by
  have h : fnBody Try.prog (mkTn base o27 t27 28) (TM.evF Try.prog (mkTn base o27 t27) dOk 40) dOk 40 28 [.agg [.int .i64 (x0), .int .i64 (x1)]] [] = (cond (ok (v35 x0)) (cond (val (v35 x0)) (cond (ok (v35 x1)) (cond (val (v35 x1)) (some ([.sc (.bool (decide (x0 ≤ x1)))], [])) (some ([.sc (.bool (false))], []))) none) (some ([.sc (.bool (false))], []))) none) := by kernel_rfl
  rw [h]
  unfold v28
  cases (ok (v35 x0)) with
  | true =>
    cases (val (v35 x0)) with
    | true =>
      cases (ok (v35 x1)) with
      | true =>
        cases (val (v35 x1)) with
        | true =>
          rfl
        | false =>
          rfl
      | false =>
        rfl
    | false =>
      rfl
  | false =>
    rfl
def sv28 : OrcS := fun al H => match al, H with
  | [.agg [.int .i64 (x0), .int .i64 (x1)]], [] => some (ok (v28 x0 x1), [.sc (.bool ((val (v28 x0 x1))))], [])
  | _, _ => none
theorem wv28 : NewOrc Try.prog dOk base o27 t27 (28, sv28) := by
  intro al H q hq hq1
  have hq : sv28 al H = some q := hq
  unfold sv28 at hq
  split at hq
  · cases hq
    exact ⟨41, (ev28 _ _).trans (ok_bind hq1)⟩
  · cases hq
def o28 : OrcT := (28, sv28) :: o27
def t28 : TellT := t27
abbrev tn28 : FuncId → TAn := mkTn base o28 t28
theorem ok28 : TnOk Try.prog tn28 (mkA base) dOk := by
  have h0 : TnOk Try.prog (mkTn base o27 t27) (mkA base) dOk := ok27
  have h1 := tn_orc h0 h0 (p := (28, sv28)) wv28
  exact h1
end Go.Proofs.Ytojbaamhnfinpaa
set_option maxRecDepth 1000000
set_option linter.unusedVariables false
set_option maxHeartbeats 4000000
namespace Go.Proofs.Ytojbaamhnfinpaa
open Go Go.AM Go.TM Go.Proofs
/-- queuelabref06.abs -/
def v52 (x0 : Int) : Option Int := (some (max x0 (IntKind.wrap IntKind.i64 ((0 : Int) - x0))))
theorem ev52 (x0 : Int) : fnBody Try.prog (mkTn base o28 t28 52) (TM.evF Try.prog (mkTn base o28 t28) dOk 40) dOk 40 52 [.sc (.int .i64 (x0))] [] = (v52 x0).bind fun r => some ([.sc (.int .i64 (r))], []) := by
  have h : fnBody Try.prog (mkTn base o28 t28 52) (TM.evF Try.prog (mkTn base o28 t28) dOk 40) dOk 40 52 [.sc (.int .i64 (x0))] [] = (some ([.sc (.int .i64 (max x0 (IntKind.wrap IntKind.i64 ((0 : Int) - x0))))], [])) := by kernel_rfl
  rw [h]
  unfold v52
  rfl
def sv52 : OrcS := fun al H => match al, H with
  | [.sc (.int .i64 (x0))], [] => some (ok (v52 x0), [.sc (.int .i64 ((val (v52 x0))))], [])
  | _, _ => none
theorem wv52 : NewOrc Try.prog dOk base o28 t28 (52, sv52) := by
  intro al H q hq hq1
  have hq : sv52 al H = some q := hq
  unfold sv52 at hq
  split at hq
  · cases hq
    exact ⟨41, (ev52 _).trans (ok_bind hq1)⟩
  · cases hq
def o29 : OrcT := (52, sv52) :: o28
def t29 : TellT := t28
abbrev tn29 : FuncId → TAn := mkTn base o29 t29
theorem ok29 : TnOk Try.prog tn29 (mkA base) dOk := by
  have h0 : TnOk Try.prog (mkTn base o28 t28) (mkA base) dOk := ok28
  have h1 := tn_orc h0 h0 (p := (52, sv52)) wv52
  exact h1
end Go.Proofs.Ytojbaamhnfinpaa
set_option maxRecDepth 1000000
set_option linter.unusedVariables false
set_option maxHeartbeats 4000000
namespace Go.Proofs.Ytojbaamhnfinpaa
open Go Go.AM Go.TM Go.Proofs
/-- queuelabref06.Product -/
def v36 (x0 : Int) (x1 : Int) : Option Int := (cond (x0 != (0 : Int)) (cond (decide (val (v52 x0) ≠ (0 : Int))) (cond (decide (val (v52 x1) > IntKind.wrap IntKind.i64 (Int.tdiv (1000000000000 : Int) (val (v52 x0))))) (some ((1000000000001 : Int))) (some (IntKind.wrap IntKind.i64 (x0 * x1)))) none) (some (IntKind.wrap IntKind.i64 (x0 * x1))))
theorem ev36 (x0 : Int) (x1 : Int) : fnBody Try.prog (mkTn base o29 t29 36) (TM.evF Try.prog (mkTn base o29 t29) dOk 40) dOk 40 36 [.sc (.int .i64 (x0)), .sc (.int .i64 (x1))] [] = (v36 x0 x1).bind fun r => some ([.sc (.int .i64 (r))], []) := by
  have h : fnBody Try.prog (mkTn base o29 t29 36) (TM.evF Try.prog (mkTn base o29 t29) dOk 40) dOk 40 36 [.sc (.int .i64 (x0)), .sc (.int .i64 (x1))] [] = (cond (x0 != (0 : Int)) (cond (decide (val (v52 x0) ≠ (0 : Int))) (cond (decide (val (v52 x1) > IntKind.wrap IntKind.i64 (Int.tdiv (1000000000000 : Int) (val (v52 x0))))) (some ([.sc (.int .i64 ((1000000000001 : Int)))], [])) (some ([.sc (.int .i64 (IntKind.wrap IntKind.i64 (x0 * x1)))], []))) none) (some ([.sc (.int .i64 (IntKind.wrap IntKind.i64 (x0 * x1)))], []))) := by kernel_rfl
  rw [h]
  unfold v36
  cases (x0 != (0 : Int)) with
  | true =>
    cases (decide (val (v52 x0) ≠ (0 : Int))) with
    | true =>
      cases (decide (val (v52 x1) > IntKind.wrap IntKind.i64 (Int.tdiv (1000000000000 : Int) (val (v52 x0))))) with
      | true =>
        rfl
      | false =>
        rfl
    | false =>
      rfl
  | false =>
    rfl
def sv36 : OrcS := fun al H => match al, H with
  | [.sc (.int .i64 (x0)), .sc (.int .i64 (x1))], [] => some (ok (v36 x0 x1), [.sc (.int .i64 ((val (v36 x0 x1))))], [])
  | _, _ => none
theorem wv36 : NewOrc Try.prog dOk base o29 t29 (36, sv36) := by
  intro al H q hq hq1
  have hq : sv36 al H = some q := hq
  unfold sv36 at hq
  split at hq
  · cases hq
    exact ⟨41, (ev36 _ _).trans (ok_bind hq1)⟩
  · cases hq
def o30 : OrcT := (36, sv36) :: o29
def t30 : TellT := t29
abbrev tn30 : FuncId → TAn := mkTn base o30 t30
theorem ok30 : TnOk Try.prog tn30 (mkA base) dOk := by
  have h0 : TnOk Try.prog (mkTn base o29 t29) (mkA base) dOk := ok29
  have h1 := tn_orc h0 h0 (p := (36, sv36)) wv36
  exact h1
end Go.Proofs.Ytojbaamhnfinpaa
set_option maxRecDepth 1000000
set_option linter.unusedVariables false
set_option maxHeartbeats 4000000
namespace Go.Proofs.Ytojbaamhnfinpaa
open Go Go.AM Go.TM Go.Proofs
/-- queuelablaw06.IntervalErrors: the piece 116 -/
def L9_116_0 (x0 : Bool) (x1 : Int) (x2 : Int) (x3 : Int) (x4 : Int) (x5 : Int) (x6 : Bool) (x7 : Bool) (x8 : Bool) (x9 : Bool) (x10 : Int) (x11 : Int) (x12 : Int) (x13 : Int) : Option Bool := (cond (x0) (cond ((x1 == (0 : Int)) == x6) (cond (x6) (cond ((x2 == (0 : Int)) == x7) (cond (x7) (cond ((x3 == (0 : Int)) == x8) (cond (x8) (cond ((x4 == (14 : Int)) == x9) (cond (x9) (some (x5 == (0 : Int))) (cond (x4 == (0 : Int)) (some (x5 == (0 : Int))) (some (false)))) (some (false))) (cond (x3 == (3 : Int)) (cond (x12 == (0 : Int) && (x13 == (0 : Int) && true)) (cond ((x4 == (14 : Int)) == x9) (cond (x9) (some (x5 == (0 : Int))) (cond (x4 == (0 : Int)) (some (x5 == (0 : Int))) (some (false)))) (some (false))) (some (false))) (some (false)))) (some (false))) (cond (x2 == (3 : Int)) (cond ((x3 == (0 : Int)) == x8) (cond (x8) (cond ((x4 == (14 : Int)) == x9) (cond (x9) (some (x5 == (0 : Int))) (cond (x4 == (0 : Int)) (some (x5 == (0 : Int))) (some (false)))) (some (false))) (cond (x3 == (3 : Int)) (cond (x12 == (0 : Int) && (x13 == (0 : Int) && true)) (cond ((x4 == (14 : Int)) == x9) (cond (x9) (some (x5 == (0 : Int))) (cond (x4 == (0 : Int)) (some (x5 == (0 : Int))) (some (false)))) (some (false))) (some (false))) (some (false)))) (some (false))) (some (false)))) (some (false))) (cond (x1 == (3 : Int)) (cond (x10 == (0 : Int) && (x11 == (0 : Int) && true)) (cond ((x2 == (0 : Int)) == x7) (cond (x7) (cond ((x3 == (0 : Int)) == x8) (cond (x8) (cond ((x4 == (14 : Int)) == x9) (cond (x9) (some (x5 == (0 : Int))) (cond (x4 == (0 : Int)) (some (x5 == (0 : Int))) (some (false)))) (some (false))) (cond (x3 == (3 : Int)) (cond (x12 == (0 : Int) && (x13 == (0 : Int) && true)) (cond ((x4 == (14 : Int)) == x9) (cond (x9) (some (x5 == (0 : Int))) (cond (x4 == (0 : Int)) (some (x5 == (0 : Int))) (some (false)))) (some (false))) (some (false))) (some (false)))) (some (false))) (cond (x2 == (3 : Int)) (cond ((x3 == (0 : Int)) == x8) (cond (x8) (cond ((x4 == (14 : Int)) == x9) (cond (x9) (some (x5 == (0 : Int))) (cond (x4 == (0 : Int)) (some (x5 == (0 : Int))) (some (false)))) (some (false))) (cond (x3 == (3 : Int)) (cond (x12 == (0 : Int) && (x13 == (0 : Int) && true)) (cond ((x4 == (14 : Int)) == x9) (cond (x9) (some (x5 == (0 : Int))) (cond (x4 == (0 : Int)) (some (x5 == (0 : Int))) (some (false)))) (some (false))) (some (false))) (some (false)))) (some (false))) (some (false)))) (some (false))) (some (false))) (some (false)))) (some (false))) (some (false)))
def xL9_116_0 (x0 : Bool) (x1 : Int) (x2 : Int) (x3 : Int) (x4 : Int) (x5 : Int) (x6 : Bool) (x7 : Bool) (x8 : Bool) (x9 : Bool) (x10 : Int) (x11 : Int) (x12 : Int) (x13 : Int) : Bool → Ex × CS := fun r => (.ret, { sl := [(4, .v (.sc (.bool (r))))], lo := [], h := [], n0 := 0 })
theorem bL9_116_0 (k : Nat) (cX : Ex → CS → Option (Ex × CS)) (x0 : Bool) (x1 : Int) (x2 : Int) (x3 : Int) (x4 : Int) (x5 : Int) (x6 : Bool) (x7 : Bool) (x8 : Bool) (x9 : Bool) (x10 : Int) (x11 : Int) (x12 : Int) (x13 : Int) : pieceBody Try.prog (mkTn base o30 t30 9) (TM.evF Try.prog (mkTn base o30 t30) dOk (k + 40)) dOk (k + 40) (codeAt Try.prog (tn0 9) 9 116) 0 116 { sl := [(5, .v (.sc (.bool (x0)))), (7, .l 7 0), (8, .v (.sc (.int .i64 (x1)))), (10, .v (.sc (.int .i64 (x2)))), (11, .l 11 0), (12, .v (.sc (.int .i64 (x3)))), (14, .v (.sc (.int .i64 (x4)))), (16, .v (.sc (.int .i64 (x5)))), (17, .v (.sc (.bool (x6)))), (18, .v (.sc (.bool (x7)))), (19, .v (.sc (.bool (x8)))), (20, .v (.sc (.bool (x9))))], lo := [(7, [.int .i64 (x10), .int .i64 (x11)]), (11, [.int .i64 (x12), .int .i64 (x13)])], h := [], n0 := 0 } cX = (cond (x0) (cond ((x1 == (0 : Int)) == x6) (cond (x6) (cond ((x2 == (0 : Int)) == x7) (cond (x7) (cond ((x3 == (0 : Int)) == x8) (cond (x8) (cond ((x4 == (14 : Int)) == x9) (cond (x9) (cX .ret { sl := [(4, .v (.sc (.bool (x5 == (0 : Int)))))], lo := [], h := [], n0 := 0 }) (cond (x4 == (0 : Int)) (cX .ret { sl := [(4, .v (.sc (.bool (x5 == (0 : Int)))))], lo := [], h := [], n0 := 0 }) (cX .ret { sl := [(4, .v (.sc (.bool (false))))], lo := [], h := [], n0 := 0 }))) (cX .ret { sl := [(4, .v (.sc (.bool (false))))], lo := [], h := [], n0 := 0 })) (cond (x3 == (3 : Int)) (cond (x12 == (0 : Int) && (x13 == (0 : Int) && true)) (cond ((x4 == (14 : Int)) == x9) (cond (x9) (cX .ret { sl := [(4, .v (.sc (.bool (x5 == (0 : Int)))))], lo := [], h := [], n0 := 0 }) (cond (x4 == (0 : Int)) (cX .ret { sl := [(4, .v (.sc (.bool (x5 == (0 : Int)))))], lo := [], h := [], n0 := 0 }) (cX .ret { sl := [(4, .v (.sc (.bool (false))))], lo := [], h := [], n0 := 0 }))) (cX .ret { sl := [(4, .v (.sc (.bool (false))))], lo := [], h := [], n0 := 0 })) (cX .ret { sl := [(4, .v (.sc (.bool (false))))], lo := [], h := [], n0 := 0 })) (cX .ret { sl := [(4, .v (.sc (.bool (false))))], lo := [], h := [], n0 := 0 }))) (cX .ret { sl := [(4, .v (.sc (.bool (false))))], lo := [], h := [], n0 := 0 })) (cond (x2 == (3 : Int)) (cond ((x3 == (0 : Int)) == x8) (cond (x8) (cond ((x4 == (14 : Int)) == x9) (cond (x9) (cX .ret { sl := [(4, .v (.sc (.bool (x5 == (0 : Int)))))], lo := [], h := [], n0 := 0 }) (cond (x4 == (0 : Int)) (cX .ret { sl := [(4, .v (.sc (.bool (x5 == (0 : Int)))))], lo := [], h := [], n0 := 0 }) (cX .ret { sl := [(4, .v (.sc (.bool (false))))], lo := [], h := [], n0 := 0 }))) (cX .ret { sl := [(4, .v (.sc (.bool (false))))], lo := [], h := [], n0 := 0 })) (cond (x3 == (3 : Int)) (cond (x12 == (0 : Int) && (x13 == (0 : Int) && true)) (cond ((x4 == (14 : Int)) == x9) (cond (x9) (cX .ret { sl := [(4, .v (.sc (.bool (x5 == (0 : Int)))))], lo := [], h := [], n0 := 0 }) (cond (x4 == (0 : Int)) (cX .ret { sl := [(4, .v (.sc (.bool (x5 == (0 : Int)))))], lo := [], h := [], n0 := 0 }) (cX .ret { sl := [(4, .v (.sc (.bool (false))))], lo := [], h := [], n0 := 0 }))) (cX .ret { sl := [(4, .v (.sc (.bool (false))))], lo := [], h := [], n0 := 0 })) (cX .ret { sl := [(4, .v (.sc (.bool (false))))], lo := [], h := [], n0 := 0 })) (cX .ret { sl := [(4, .v (.sc (.bool (false))))], lo := [], h := [], n0 := 0 }))) (cX .ret { sl := [(4, .v (.sc (.bool (false))))], lo := [], h := [], n0 := 0 })) (cX .ret { sl := [(4, .v (.sc (.bool (false))))], lo := [], h := [], n0 := 0 }))) (cX .ret { sl := [(4, .v (.sc (.bool (false))))], lo := [], h := [], n0 := 0 })) (cond (x1 == (3 : Int)) (cond (x10 == (0 : Int) && (x11 == (0 : Int) && true)) (cond ((x2 == (0 : Int)) == x7) (cond (x7) (cond ((x3 == (0 : Int)) == x8) (cond (x8) (cond ((x4 == (14 : Int)) == x9) (cond (x9) (cX .ret { sl := [(4, .v (.sc (.bool (x5 == (0 : Int)))))], lo := [], h := [], n0 := 0 }) (cond (x4 == (0 : Int)) (cX .ret { sl := [(4, .v (.sc (.bool (x5 == (0 : Int)))))], lo := [], h := [], n0 := 0 }) (cX .ret { sl := [(4, .v (.sc (.bool (false))))], lo := [], h := [], n0 := 0 }))) (cX .ret { sl := [(4, .v (.sc (.bool (false))))], lo := [], h := [], n0 := 0 })) (cond (x3 == (3 : Int)) (cond (x12 == (0 : Int) && (x13 == (0 : Int) && true)) (cond ((x4 == (14 : Int)) == x9) (cond (x9) (cX .ret { sl := [(4, .v (.sc (.bool (x5 == (0 : Int)))))], lo := [], h := [], n0 := 0 }) (cond (x4 == (0 : Int)) (cX .ret { sl := [(4, .v (.sc (.bool (x5 == (0 : Int)))))], lo := [], h := [], n0 := 0 }) (cX .ret { sl := [(4, .v (.sc (.bool (false))))], lo := [], h := [], n0 := 0 }))) (cX .ret { sl := [(4, .v (.sc (.bool (false))))], lo := [], h := [], n0 := 0 })) (cX .ret { sl := [(4, .v (.sc (.bool (false))))], lo := [], h := [], n0 := 0 })) (cX .ret { sl := [(4, .v (.sc (.bool (false))))], lo := [], h := [], n0 := 0 }))) (cX .ret { sl := [(4, .v (.sc (.bool (false))))], lo := [], h := [], n0 := 0 })) (cond (x2 == (3 : Int)) (cond ((x3 == (0 : Int)) == x8) (cond (x8) (cond ((x4 == (14 : Int)) == x9) (cond (x9) (cX .ret { sl := [(4, .v (.sc (.bool (x5 == (0 : Int)))))], lo := [], h := [], n0 := 0 }) (cond (x4 == (0 : Int)) (cX .ret { sl := [(4, .v (.sc (.bool (x5 == (0 : Int)))))], lo := [], h := [], n0 := 0 }) (cX .ret { sl := [(4, .v (.sc (.bool (false))))], lo := [], h := [], n0 := 0 }))) (cX .ret { sl := [(4, .v (.sc (.bool (false))))], lo := [], h := [], n0 := 0 })) (cond (x3 == (3 : Int)) (cond (x12 == (0 : Int) && (x13 == (0 : Int) && true)) (cond ((x4 == (14 : Int)) == x9) (cond (x9) (cX .ret { sl := [(4, .v (.sc (.bool (x5 == (0 : Int)))))], lo := [], h := [], n0 := 0 }) (cond (x4 == (0 : Int)) (cX .ret { sl := [(4, .v (.sc (.bool (x5 == (0 : Int)))))], lo := [], h := [], n0 := 0 }) (cX .ret { sl := [(4, .v (.sc (.bool (false))))], lo := [], h := [], n0 := 0 }))) (cX .ret { sl := [(4, .v (.sc (.bool (false))))], lo := [], h := [], n0 := 0 })) (cX .ret { sl := [(4, .v (.sc (.bool (false))))], lo := [], h := [], n0 := 0 })) (cX .ret { sl := [(4, .v (.sc (.bool (false))))], lo := [], h := [], n0 := 0 }))) (cX .ret { sl := [(4, .v (.sc (.bool (false))))], lo := [], h := [], n0 := 0 })) (cX .ret { sl := [(4, .v (.sc (.bool (false))))], lo := [], h := [], n0 := 0 }))) (cX .ret { sl := [(4, .v (.sc (.bool (false))))], lo := [], h := [], n0 := 0 })) (cX .ret { sl := [(4, .v (.sc (.bool (false))))], lo := [], h := [], n0 := 0 })) (cX .ret { sl := [(4, .v (.sc (.bool (false))))], lo := [], h := [], n0 := 0 }))) (cX .ret { sl := [(4, .v (.sc (.bool (false))))], lo := [], h := [], n0 := 0 })) (cX .ret { sl := [(4, .v (.sc (.bool (false))))], lo := [], h := [], n0 := 0 })) := by kernel_rfl
theorem lL9_116_0 (k : Nat) (x0 : Bool) (x1 : Int) (x2 : Int) (x3 : Int) (x4 : Int) (x5 : Int) (x6 : Bool) (x7 : Bool) (x8 : Bool) (x9 : Bool) (x10 : Int) (x11 : Int) (x12 : Int) (x13 : Int) (r : Bool) : L9_116_0 x0 x1 x2 x3 x4 x5 x6 x7 x8 x9 x10 x11 x12 x13 = some r → pieceBody Try.prog (mkTn base o30 t30 9) (TM.evF Try.prog (mkTn base o30 t30) dOk (k + 40)) dOk (k + 40) (codeAt Try.prog (tn0 9) 9 116) 0 116 { sl := [(5, .v (.sc (.bool (x0)))), (7, .l 7 0), (8, .v (.sc (.int .i64 (x1)))), (10, .v (.sc (.int .i64 (x2)))), (11, .l 11 0), (12, .v (.sc (.int .i64 (x3)))), (14, .v (.sc (.int .i64 (x4)))), (16, .v (.sc (.int .i64 (x5)))), (17, .v (.sc (.bool (x6)))), (18, .v (.sc (.bool (x7)))), (19, .v (.sc (.bool (x8)))), (20, .v (.sc (.bool (x9))))], lo := [(7, [.int .i64 (x10), .int .i64 (x11)]), (11, [.int .i64 (x12), .int .i64 (x13)])], h := [], n0 := 0 } (fun e s => some (e, s)) = some (xL9_116_0 x0 x1 x2 x3 x4 x5 x6 x7 x8 x9 x10 x11 x12 x13 r) := by
  rw [bL9_116_0]
  unfold L9_116_0
  cases x0 with
  | true =>
    cases ((x1 == (0 : Int)) == x6) with
    | true =>
      cases x6 with
      | true =>
        cases ((x2 == (0 : Int)) == x7) with
        | true =>
          cases x7 with
          | true =>
            cases ((x3 == (0 : Int)) == x8) with
            | true =>
              cases x8 with
              | true =>
                cases ((x4 == (14 : Int)) == x9) with
                | true =>
                  cases x9 with
                  | true =>
                    intro h; cases h; rfl
                  | false =>
                    cases (x4 == (0 : Int)) with
                    | true =>
                      intro h; cases h; rfl
                    | false =>
                      intro h; cases h; rfl
                | false =>
                  intro h; cases h; rfl
              | false =>
                cases (x3 == (3 : Int)) with
                | true =>
                  cases (x12 == (0 : Int) && (x13 == (0 : Int) && true)) with
                  | true =>
                    cases ((x4 == (14 : Int)) == x9) with
                    | true =>
                      cases x9 with
                      | true =>
                        intro h; cases h; rfl
                      | false =>
                        cases (x4 == (0 : Int)) with
                        | true =>
                          intro h; cases h; rfl
                        | false =>
                          intro h; cases h; rfl
                    | false =>
                      intro h; cases h; rfl
                  | false =>
                    intro h; cases h; rfl
                | false =>
                  intro h; cases h; rfl
            | false =>
              intro h; cases h; rfl
          | false =>
            cases (x2 == (3 : Int)) with
            | true =>
              cases ((x3 == (0 : Int)) == x8) with
              | true =>
                cases x8 with
                | true =>
                  cases ((x4 == (14 : Int)) == x9) with
                  | true =>
                    cases x9 with
                    | true =>
                      intro h; cases h; rfl
                    | false =>
                      cases (x4 == (0 : Int)) with
                      | true =>
                        intro h; cases h; rfl
                      | false =>
                        intro h; cases h; rfl
                  | false =>
                    intro h; cases h; rfl
                | false =>
                  cases (x3 == (3 : Int)) with
                  | true =>
                    cases (x12 == (0 : Int) && (x13 == (0 : Int) && true)) with
                    | true =>
                      cases ((x4 == (14 : Int)) == x9) with
                      | true =>
                        cases x9 with
                        | true =>
                          intro h; cases h; rfl
                        | false =>
                          cases (x4 == (0 : Int)) with
                          | true =>
                            intro h; cases h; rfl
                          | false =>
                            intro h; cases h; rfl
                      | false =>
                        intro h; cases h; rfl
                    | false =>
                      intro h; cases h; rfl
                  | false =>
                    intro h; cases h; rfl
              | false =>
                intro h; cases h; rfl
            | false =>
              intro h; cases h; rfl
        | false =>
          intro h; cases h; rfl
      | false =>
        cases (x1 == (3 : Int)) with
        | true =>
          cases (x10 == (0 : Int) && (x11 == (0 : Int) && true)) with
          | true =>
            cases ((x2 == (0 : Int)) == x7) with
            | true =>
              cases x7 with
              | true =>
                cases ((x3 == (0 : Int)) == x8) with
                | true =>
                  cases x8 with
                  | true =>
                    cases ((x4 == (14 : Int)) == x9) with
                    | true =>
                      cases x9 with
                      | true =>
                        intro h; cases h; rfl
                      | false =>
                        cases (x4 == (0 : Int)) with
                        | true =>
                          intro h; cases h; rfl
                        | false =>
                          intro h; cases h; rfl
                    | false =>
                      intro h; cases h; rfl
                  | false =>
                    cases (x3 == (3 : Int)) with
                    | true =>
                      cases (x12 == (0 : Int) && (x13 == (0 : Int) && true)) with
                      | true =>
                        cases ((x4 == (14 : Int)) == x9) with
                        | true =>
                          cases x9 with
                          | true =>
                            intro h; cases h; rfl
                          | false =>
                            cases (x4 == (0 : Int)) with
                            | true =>
                              intro h; cases h; rfl
                            | false =>
                              intro h; cases h; rfl
                        | false =>
                          intro h; cases h; rfl
                      | false =>
                        intro h; cases h; rfl
                    | false =>
                      intro h; cases h; rfl
                | false =>
                  intro h; cases h; rfl
              | false =>
                cases (x2 == (3 : Int)) with
                | true =>
                  cases ((x3 == (0 : Int)) == x8) with
                  | true =>
                    cases x8 with
                    | true =>
                      cases ((x4 == (14 : Int)) == x9) with
                      | true =>
                        cases x9 with
                        | true =>
                          intro h; cases h; rfl
                        | false =>
                          cases (x4 == (0 : Int)) with
                          | true =>
                            intro h; cases h; rfl
                          | false =>
                            intro h; cases h; rfl
                      | false =>
                        intro h; cases h; rfl
                    | false =>
                      cases (x3 == (3 : Int)) with
                      | true =>
                        cases (x12 == (0 : Int) && (x13 == (0 : Int) && true)) with
                        | true =>
                          cases ((x4 == (14 : Int)) == x9) with
                          | true =>
                            cases x9 with
                            | true =>
                              intro h; cases h; rfl
                            | false =>
                              cases (x4 == (0 : Int)) with
                              | true =>
                                intro h; cases h; rfl
                              | false =>
                                intro h; cases h; rfl
                          | false =>
                            intro h; cases h; rfl
                        | false =>
                          intro h; cases h; rfl
                      | false =>
                        intro h; cases h; rfl
                  | false =>
                    intro h; cases h; rfl
                | false =>
                  intro h; cases h; rfl
            | false =>
              intro h; cases h; rfl
          | false =>
            intro h; cases h; rfl
        | false =>
          intro h; cases h; rfl
    | false =>
      intro h; cases h; rfl
  | false =>
    intro h; cases h; rfl
def sL9_116_0 : TellS := fun S => match S with
  | { sl := [(5, .v (.sc (.bool (x0)))), (7, .l 7 0), (8, .v (.sc (.int .i64 (x1)))), (10, .v (.sc (.int .i64 (x2)))), (11, .l 11 0), (12, .v (.sc (.int .i64 (x3)))), (14, .v (.sc (.int .i64 (x4)))), (16, .v (.sc (.int .i64 (x5)))), (17, .v (.sc (.bool (x6)))), (18, .v (.sc (.bool (x7)))), (19, .v (.sc (.bool (x8)))), (20, .v (.sc (.bool (x9))))], lo := [(7, [.int .i64 (x10), .int .i64 (x11)]), (11, [.int .i64 (x12), .int .i64 (x13)])], h := [], n0 := 0 } => some [(ok (L9_116_0 x0 x1 x2 x3 x4 x5 x6 x7 x8 x9 x10 x11 x12 x13), .ret, { sl := [(4, .v (.sc (.bool ((val (L9_116_0 x0 x1 x2 x3 x4 x5 x6 x7 x8 x9 x10 x11 x12 x13))))))], lo := [], h := [], n0 := 0 })]
  | _ => none
theorem wL9_116_0 : NewTell Try.prog dOk base o30 t30 ((9, 116), sL9_116_0) := by
  refine ⟨(codeAt Try.prog (tn0 9) 9 116), 0, by kernel_rfl, ?_⟩
  intro S alts e S' h1 h2
  have h1 : sL9_116_0 S = some alts := h1
  unfold sL9_116_0 at h1
  split at h1
  · cases h1
    obtain ⟨hc0, rfl, rfl⟩ := pick_one h2
    exact ⟨0 + 40, (evPiece_code rfl).trans (lL9_116_0 0 _ _ _ _ _ _ _ _ _ _ _ _ _ _ _ (ok_val hc0))⟩
  · cases h1
def o31 : OrcT := o30
def t31 : TellT := ((9, 116), sL9_116_0) :: t30
abbrev tn31 : FuncId → TAn := mkTn base o31 t31
theorem ok31 : TnOk Try.prog tn31 (mkA base) dOk := by
  have h0 : TnOk Try.prog (mkTn base o30 t30) (mkA base) dOk := ok30
  have h1 := tn_tell h0 h0 (p := ((9, 116), sL9_116_0)) wL9_116_0
  exact h1
end Go.Proofs.Ytojbaamhnfinpaa
set_option maxRecDepth 1000000
set_option linter.unusedVariables false
set_option maxHeartbeats 4000000
namespace Go.Proofs.Ytojbaamhnfinpaa
open Go Go.AM Go.TM Go.Proofs
/-- queuelablaw06.IntervalErrors: the piece 108 -/
def L9_108_0 (x0 : Bool) (x1 : Int) (x2 : Int) (x3 : Int) (x4 : Int) (x5 : Int) (x6 : Bool) (x7 : Bool) (x8 : Bool) (x9 : Int) (x10 : Int) (x11 : Int) (x12 : Int) (x13 : Int) (x14 : Int) : Option Bool := (cond (decide (x9 ≤ (0 : Int))) (cond (ok (L9_116_0 x0 x1 x2 x3 x4 x5 x6 x7 x8 (decide (x10 ≥ (0 : Int))) x11 x12 x13 x14)) (some (val (L9_116_0 x0 x1 x2 x3 x4 x5 x6 x7 x8 (decide (x10 ≥ (0 : Int))) x11 x12 x13 x14))) none) (cond (ok (L9_116_0 x0 x1 x2 x3 x4 x5 x6 x7 x8 false x11 x12 x13 x14)) (some (val (L9_116_0 x0 x1 x2 x3 x4 x5 x6 x7 x8 false x11 x12 x13 x14))) none))
def xL9_108_0 (x0 : Bool) (x1 : Int) (x2 : Int) (x3 : Int) (x4 : Int) (x5 : Int) (x6 : Bool) (x7 : Bool) (x8 : Bool) (x9 : Int) (x10 : Int) (x11 : Int) (x12 : Int) (x13 : Int) (x14 : Int) : Bool → Ex × CS := fun r => (.ret, { sl := [(4, .v (.sc (.bool (r))))], lo := [], h := [], n0 := 0 })
theorem bL9_108_0 (k : Nat) (cX : Ex → CS → Option (Ex × CS)) (x0 : Bool) (x1 : Int) (x2 : Int) (x3 : Int) (x4 : Int) (x5 : Int) (x6 : Bool) (x7 : Bool) (x8 : Bool) (x9 : Int) (x10 : Int) (x11 : Int) (x12 : Int) (x13 : Int) (x14 : Int) : pieceBody Try.prog (mkTn base o31 t31 9) (TM.evF Try.prog (mkTn base o31 t31) dOk (k + 40)) dOk (k + 40) (codeAt Try.prog (tn0 9) 9 108) 0 108 { sl := [(3, .l 3 0), (5, .v (.sc (.bool (x0)))), (7, .l 7 0), (8, .v (.sc (.int .i64 (x1)))), (10, .v (.sc (.int .i64 (x2)))), (11, .l 11 0), (12, .v (.sc (.int .i64 (x3)))), (14, .v (.sc (.int .i64 (x4)))), (16, .v (.sc (.int .i64 (x5)))), (17, .v (.sc (.bool (x6)))), (18, .v (.sc (.bool (x7)))), (19, .v (.sc (.bool (x8))))], lo := [(3, [.int .i64 (x9), .int .i64 (x10)]), (7, [.int .i64 (x11), .int .i64 (x12)]), (11, [.int .i64 (x13), .int .i64 (x14)])], h := [], n0 := 0 } cX = (cond (decide (x9 ≤ (0 : Int))) (cond (ok (L9_116_0 x0 x1 x2 x3 x4 x5 x6 x7 x8 (decide (x10 ≥ (0 : Int))) x11 x12 x13 x14)) (cX .ret { sl := [(4, .v (.sc (.bool (val (L9_116_0 x0 x1 x2 x3 x4 x5 x6 x7 x8 (decide (x10 ≥ (0 : Int))) x11 x12 x13 x14)))))], lo := [], h := [], n0 := 0 }) none) (cond (ok (L9_116_0 x0 x1 x2 x3 x4 x5 x6 x7 x8 false x11 x12 x13 x14)) (cX .ret { sl := [(4, .v (.sc (.bool (val (L9_116_0 x0 x1 x2 x3 x4 x5 x6 x7 x8 false x11 x12 x13 x14)))))], lo := [], h := [], n0 := 0 }) none)) := by kernel_rfl
theorem lL9_108_0 (k : Nat) (x0 : Bool) (x1 : Int) (x2 : Int) (x3 : Int) (x4 : Int) (x5 : Int) (x6 : Bool) (x7 : Bool) (x8 : Bool) (x9 : Int) (x10 : Int) (x11 : Int) (x12 : Int) (x13 : Int) (x14 : Int) (r : Bool) : L9_108_0 x0 x1 x2 x3 x4 x5 x6 x7 x8 x9 x10 x11 x12 x13 x14 = some r → pieceBody Try.prog (mkTn base o31 t31 9) (TM.evF Try.prog (mkTn base o31 t31) dOk (k + 40)) dOk (k + 40) (codeAt Try.prog (tn0 9) 9 108) 0 108 { sl := [(3, .l 3 0), (5, .v (.sc (.bool (x0)))), (7, .l 7 0), (8, .v (.sc (.int .i64 (x1)))), (10, .v (.sc (.int .i64 (x2)))), (11, .l 11 0), (12, .v (.sc (.int .i64 (x3)))), (14, .v (.sc (.int .i64 (x4)))), (16, .v (.sc (.int .i64 (x5)))), (17, .v (.sc (.bool (x6)))), (18, .v (.sc (.bool (x7)))), (19, .v (.sc (.bool (x8))))], lo := [(3, [.int .i64 (x9), .int .i64 (x10)]), (7, [.int .i64 (x11), .int .i64 (x12)]), (11, [.int .i64 (x13), .int .i64 (x14)])], h := [], n0 := 0 } (fun e s => some (e, s)) = some (xL9_108_0 x0 x1 x2 x3 x4 x5 x6 x7 x8 x9 x10 x11 x12 x13 x14 r) := by
  rw [bL9_108_0]
  unfold L9_108_0
  cases (decide (x9 ≤ (0 : Int))) with
  | true =>
    cases (ok (L9_116_0 x0 x1 x2 x3 x4 x5 x6 x7 x8 (decide (x10 ≥ (0 : Int))) x11 x12 x13 x14)) with
    | true =>
      intro h; cases h; rfl
    | false =>
      intro h; cases h
  | false =>
    cases (ok (L9_116_0 x0 x1 x2 x3 x4 x5 x6 x7 x8 false x11 x12 x13 x14)) with
    | true =>
      intro h; cases h; rfl
    | false =>
      intro h; cases h
def sL9_108_0 : TellS := fun S => match S with
  | { sl := [(3, .l 3 0), (5, .v (.sc (.bool (x0)))), (7, .l 7 0), (8, .v (.sc (.int .i64 (x1)))), (10, .v (.sc (.int .i64 (x2)))), (11, .l 11 0), (12, .v (.sc (.int .i64 (x3)))), (14, .v (.sc (.int .i64 (x4)))), (16, .v (.sc (.int .i64 (x5)))), (17, .v (.sc (.bool (x6)))), (18, .v (.sc (.bool (x7)))), (19, .v (.sc (.bool (x8))))], lo := [(3, [.int .i64 (x9), .int .i64 (x10)]), (7, [.int .i64 (x11), .int .i64 (x12)]), (11, [.int .i64 (x13), .int .i64 (x14)])], h := [], n0 := 0 } => some [(ok (L9_108_0 x0 x1 x2 x3 x4 x5 x6 x7 x8 x9 x10 x11 x12 x13 x14), .ret, { sl := [(4, .v (.sc (.bool ((val (L9_108_0 x0 x1 x2 x3 x4 x5 x6 x7 x8 x9 x10 x11 x12 x13 x14))))))], lo := [], h := [], n0 := 0 })]
  | _ => none
theorem wL9_108_0 : NewTell Try.prog dOk base o31 t31 ((9, 108), sL9_108_0) := by
  refine ⟨(codeAt Try.prog (tn0 9) 9 108), 0, by kernel_rfl, ?_⟩
  intro S alts e S' h1 h2
  have h1 : sL9_108_0 S = some alts := h1
  unfold sL9_108_0 at h1
  split at h1
  · cases h1
    obtain ⟨hc0, rfl, rfl⟩ := pick_one h2
    exact ⟨0 + 40, (evPiece_code rfl).trans (lL9_108_0 0 _ _ _ _ _ _ _ _ _ _ _ _ _ _ _ _ (ok_val hc0))⟩
  · cases h1
def o32 : OrcT := o31
def t32 : TellT := ((9, 108), sL9_108_0) :: t31
abbrev tn32 : FuncId → TAn := mkTn base o32 t32
theorem ok32 : TnOk Try.prog tn32 (mkA base) dOk := by
  have h0 : TnOk Try.prog (mkTn base o31 t31) (mkA base) dOk := ok31
  have h1 := tn_tell h0 h0 (p := ((9, 108), sL9_108_0)) wL9_108_0
  exact h1
end Go.Proofs.Ytojbaamhnfinpaa
set_option maxRecDepth 1000000
set_option linter.unusedVariables false
set_option maxHeartbeats 4000000
namespace Go.Proofs.Ytojbaamhnfinpaa
open Go Go.AM Go.TM Go.Proofs
/-- queuelablaw06.IntervalErrors: the piece 100 -/
def L9_100_0 (x0 : Bool) (x1 : Int) (x2 : Int) (x3 : Int) (x4 : Int) (x5 : Int) (x6 : Bool) (x7 : Bool) (x8 : Int) (x9 : Int) (x10 : Int) (x11 : Int) (x12 : Int) (x13 : Int) (x14 : Int) (x15 : Int) : Option Bool := (cond (ok (v36 x8 x10)) (cond (ok (v35 (val (v36 x8 x10)))) (cond (val (v35 (val (v36 x8 x10)))) (cond (ok (v36 x8 x11)) (cond (ok (v35 (val (v36 x8 x11)))) (cond (val (v35 (val (v36 x8 x11)))) (cond (ok (v36 x9 x10)) (cond (ok (v35 (val (v36 x9 x10)))) (cond (val (v35 (val (v36 x9 x10)))) (cond (ok (v36 x9 x11)) (cond (ok (v35 (val (v36 x9 x11)))) (cond (ok (L9_108_0 x0 x1 x2 x3 x4 x5 x6 x7 (val (v35 (val (v36 x9 x11)))) x10 x11 x12 x13 x14 x15)) (some (val (L9_108_0 x0 x1 x2 x3 x4 x5 x6 x7 (val (v35 (val (v36 x9 x11)))) x10 x11 x12 x13 x14 x15))) none) none) none) (cond (ok (L9_108_0 x0 x1 x2 x3 x4 x5 x6 x7 false x10 x11 x12 x13 x14 x15)) (some (val (L9_108_0 x0 x1 x2 x3 x4 x5 x6 x7 false x10 x11 x12 x13 x14 x15))) none)) none) none) (cond (ok (L9_108_0 x0 x1 x2 x3 x4 x5 x6 x7 false x10 x11 x12 x13 x14 x15)) (some (val (L9_108_0 x0 x1 x2 x3 x4 x5 x6 x7 false x10 x11 x12 x13 x14 x15))) none)) none) none) (cond (ok (L9_108_0 x0 x1 x2 x3 x4 x5 x6 x7 false x10 x11 x12 x13 x14 x15)) (some (val (L9_108_0 x0 x1 x2 x3 x4 x5 x6 x7 false x10 x11 x12 x13 x14 x15))) none)) none) none)
def xL9_100_0 (x0 : Bool) (x1 : Int) (x2 : Int) (x3 : Int) (x4 : Int) (x5 : Int) (x6 : Bool) (x7 : Bool) (x8 : Int) (x9 : Int) (x10 : Int) (x11 : Int) (x12 : Int) (x13 : Int) (x14 : Int) (x15 : Int) : Bool → Ex × CS := fun r => (.ret, { sl := [(4, .v (.sc (.bool (r))))], lo := [], h := [], n0 := 0 })
theorem bL9_100_0 (k : Nat) (cX : Ex → CS → Option (Ex × CS)) (x0 : Bool) (x1 : Int) (x2 : Int) (x3 : Int) (x4 : Int) (x5 : Int) (x6 : Bool) (x7 : Bool) (x8 : Int) (x9 : Int) (x10 : Int) (x11 : Int) (x12 : Int) (x13 : Int) (x14 : Int) (x15 : Int) : pieceBody Try.prog (mkTn base o32 t32 9) (TM.evF Try.prog (mkTn base o32 t32) dOk (k + 40)) dOk (k + 40) (codeAt Try.prog (tn0 9) 9 100) 0 100 { sl := [(2, .l 2 0), (3, .l 3 0), (5, .v (.sc (.bool (x0)))), (7, .l 7 0), (8, .v (.sc (.int .i64 (x1)))), (10, .v (.sc (.int .i64 (x2)))), (11, .l 11 0), (12, .v (.sc (.int .i64 (x3)))), (14, .v (.sc (.int .i64 (x4)))), (16, .v (.sc (.int .i64 (x5)))), (17, .v (.sc (.bool (x6)))), (18, .v (.sc (.bool (x7))))], lo := [(2, [.int .i64 (x8), .int .i64 (x9)]), (3, [.int .i64 (x10), .int .i64 (x11)]), (7, [.int .i64 (x12), .int .i64 (x13)]), (11, [.int .i64 (x14), .int .i64 (x15)])], h := [], n0 := 0 } cX = (cond (ok (v36 x8 x10)) (cond (ok (v35 (val (v36 x8 x10)))) (cond (val (v35 (val (v36 x8 x10)))) (cond (ok (v36 x8 x11)) (cond (ok (v35 (val (v36 x8 x11)))) (cond (val (v35 (val (v36 x8 x11)))) (cond (ok (v36 x9 x10)) (cond (ok (v35 (val (v36 x9 x10)))) (cond (val (v35 (val (v36 x9 x10)))) (cond (ok (v36 x9 x11)) (cond (ok (v35 (val (v36 x9 x11)))) (cond (ok (L9_108_0 x0 x1 x2 x3 x4 x5 x6 x7 (val (v35 (val (v36 x9 x11)))) x10 x11 x12 x13 x14 x15)) (cX .ret { sl := [(4, .v (.sc (.bool (val (L9_108_0 x0 x1 x2 x3 x4 x5 x6 x7 (val (v35 (val (v36 x9 x11)))) x10 x11 x12 x13 x14 x15)))))], lo := [], h := [], n0 := 0 }) none) none) none) (cond (ok (L9_108_0 x0 x1 x2 x3 x4 x5 x6 x7 false x10 x11 x12 x13 x14 x15)) (cX .ret { sl := [(4, .v (.sc (.bool (val (L9_108_0 x0 x1 x2 x3 x4 x5 x6 x7 false x10 x11 x12 x13 x14 x15)))))], lo := [], h := [], n0 := 0 }) none)) none) none) (cond (ok (L9_108_0 x0 x1 x2 x3 x4 x5 x6 x7 false x10 x11 x12 x13 x14 x15)) (cX .ret { sl := [(4, .v (.sc (.bool (val (L9_108_0 x0 x1 x2 x3 x4 x5 x6 x7 false x10 x11 x12 x13 x14 x15)))))], lo := [], h := [], n0 := 0 }) none)) none) none) (cond (ok (L9_108_0 x0 x1 x2 x3 x4 x5 x6 x7 false x10 x11 x12 x13 x14 x15)) (cX .ret { sl := [(4, .v (.sc (.bool (val (L9_108_0 x0 x1 x2 x3 x4 x5 x6 x7 false x10 x11 x12 x13 x14 x15)))))], lo := [], h := [], n0 := 0 }) none)) none) none) := by kernel_rfl
theorem lL9_100_0 (k : Nat) (x0 : Bool) (x1 : Int) (x2 : Int) (x3 : Int) (x4 : Int) (x5 : Int) (x6 : Bool) (x7 : Bool) (x8 : Int) (x9 : Int) (x10 : Int) (x11 : Int) (x12 : Int) (x13 : Int) (x14 : Int) (x15 : Int) (r : Bool) : L9_100_0 x0 x1 x2 x3 x4 x5 x6 x7 x8 x9 x10 x11 x12 x13 x14 x15 = some r → pieceBody Try.prog (mkTn base o32 t32 9) (TM.evF Try.prog (mkTn base o32 t32) dOk (k + 40)) dOk (k + 40) (codeAt Try.prog (tn0 9) 9 100) 0 100 { sl := [(2, .l 2 0), (3, .l 3 0), (5, .v (.sc (.bool (x0)))), (7, .l 7 0), (8, .v (.sc (.int .i64 (x1)))), (10, .v (.sc (.int .i64 (x2)))), (11, .l 11 0), (12, .v (.sc (.int .i64 (x3)))), (14, .v (.sc (.int .i64 (x4)))), (16, .v (.sc (.int .i64 (x5)))), (17, .v (.sc (.bool (x6)))), (18, .v (.sc (.bool (x7))))], lo := [(2, [.int .i64 (x8), .int .i64 (x9)]), (3, [.int .i64 (x10), .int .i64 (x11)]), (7, [.int .i64 (x12), .int .i64 (x13)]), (11, [.int .i64 (x14), .int .i64 (x15)])], h := [], n0 := 0 } (fun e s => some (e, s)) = some (xL9_100_0 x0 x1 x2 x3 x4 x5 x6 x7 x8 x9 x10 x11 x12 x13 x14 x15 r) := by
  rw [bL9_100_0]
  unfold L9_100_0
  cases (ok (v36 x8 x10)) with
  | true =>
    cases (ok (v35 (val (v36 x8 x10)))) with
    | true =>
      cases (val (v35 (val (v36 x8 x10)))) with
      | true =>
        cases (ok (v36 x8 x11)) with
        | true =>
          cases (ok (v35 (val (v36 x8 x11)))) with
          | true =>
            cases (val (v35 (val (v36 x8 x11)))) with
            | true =>
              cases (ok (v36 x9 x10)) with
              | true =>
                cases (ok (v35 (val (v36 x9 x10)))) with
                | true =>
                  cases (val (v35 (val (v36 x9 x10)))) with
                  | true =>
                    cases (ok (v36 x9 x11)) with
                    | true =>
                      cases (ok (v35 (val (v36 x9 x11)))) with
                      | true =>
                        cases (ok (L9_108_0 x0 x1 x2 x3 x4 x5 x6 x7 (val (v35 (val (v36 x9 x11)))) x10 x11 x12 x13 x14 x15)) with
                        | true =>
                          intro h; cases h; rfl
                        | false =>
                          intro h; cases h
                      | false =>
                        intro h; cases h
                    | false =>
                      intro h; cases h
                  | false =>
                    cases (ok (L9_108_0 x0 x1 x2 x3 x4 x5 x6 x7 false x10 x11 x12 x13 x14 x15)) with
                    | true =>
                      intro h; cases h; rfl
                    | false =>
                      intro h; cases h
                | false =>
                  intro h; cases h
              | false =>
                intro h; cases h
            | false =>
              cases (ok (L9_108_0 x0 x1 x2 x3 x4 x5 x6 x7 false x10 x11 x12 x13 x14 x15)) with
              | true =>
                intro h; cases h; rfl
              | false =>
                intro h; cases h
          | false =>
            intro h; cases h
        | false =>
          intro h; cases h
      | false =>
        cases (ok (L9_108_0 x0 x1 x2 x3 x4 x5 x6 x7 false x10 x11 x12 x13 x14 x15)) with
        | true =>
          intro h; cases h; rfl
        | false =>
          intro h; cases h
    | false =>
      intro h; cases h
  | false =>
    intro h; cases h
def sL9_100_0 : TellS := fun S => match S with
  | { sl := [(2, .l 2 0), (3, .l 3 0), (5, .v (.sc (.bool (x0)))), (7, .l 7 0), (8, .v (.sc (.int .i64 (x1)))), (10, .v (.sc (.int .i64 (x2)))), (11, .l 11 0), (12, .v (.sc (.int .i64 (x3)))), (14, .v (.sc (.int .i64 (x4)))), (16, .v (.sc (.int .i64 (x5)))), (17, .v (.sc (.bool (x6)))), (18, .v (.sc (.bool (x7))))], lo := [(2, [.int .i64 (x8), .int .i64 (x9)]), (3, [.int .i64 (x10), .int .i64 (x11)]), (7, [.int .i64 (x12), .int .i64 (x13)]), (11, [.int .i64 (x14), .int .i64 (x15)])], h := [], n0 := 0 } => some [(ok (L9_100_0 x0 x1 x2 x3 x4 x5 x6 x7 x8 x9 x10 x11 x12 x13 x14 x15), .ret, { sl := [(4, .v (.sc (.bool ((val (L9_100_0 x0 x1 x2 x3 x4 x5 x6 x7 x8 x9 x10 x11 x12 x13 x14 x15))))))], lo := [], h := [], n0 := 0 })]
  | _ => none
theorem wL9_100_0 : NewTell Try.prog dOk base o32 t32 ((9, 100), sL9_100_0) := by
  refine ⟨(codeAt Try.prog (tn0 9) 9 100), 0, by kernel_rfl, ?_⟩
  intro S alts e S' h1 h2
  have h1 : sL9_100_0 S = some alts := h1
  unfold sL9_100_0 at h1
  split at h1
  · cases h1
    obtain ⟨hc0, rfl, rfl⟩ := pick_one h2
    exact ⟨0 + 40, (evPiece_code rfl).trans (lL9_100_0 0 _ _ _ _ _ _ _ _ _ _ _ _ _ _ _ _ _ (ok_val hc0))⟩
  · cases h1
def o33 : OrcT := o32
def t33 : TellT := ((9, 100), sL9_100_0) :: t32
abbrev tn33 : FuncId → TAn := mkTn base o33 t33
theorem ok33 : TnOk Try.prog tn33 (mkA base) dOk := by
  have h0 : TnOk Try.prog (mkTn base o32 t32) (mkA base) dOk := ok32
  have h1 := tn_tell h0 h0 (p := ((9, 100), sL9_100_0)) wL9_100_0
  exact h1
end Go.Proofs.Ytojbaamhnfinpaa
set_option maxRecDepth 1000000
set_option linter.unusedVariables false
set_option maxHeartbeats 4000000
namespace Go.Proofs.Ytojbaamhnfinpaa
open Go Go.AM Go.TM Go.Proofs
/-- queuelablaw06.IntervalErrors: the piece 92 -/
def L9_92_0 (x0 : Bool) (x1 : Int) (x2 : Int) (x3 : Int) (x4 : Int) (x5 : Int) (x6 : Bool) (x7 : Int) (x8 : Int) (x9 : Int) (x10 : Int) (x11 : Int) (x12 : Int) (x13 : Int) (x14 : Int) : Option Bool := (cond (ok (v35 (IntKind.wrap IntKind.i64 (x7 - x10)))) (cond (val (v35 (IntKind.wrap IntKind.i64 (x7 - x10)))) (cond (ok (v35 (IntKind.wrap IntKind.i64 (x8 - x9)))) (cond (ok (L9_100_0 x0 x1 x2 x3 x4 x5 x6 (val (v35 (IntKind.wrap IntKind.i64 (x8 - x9)))) x7 x8 x9 x10 x11 x12 x13 x14)) (some (val (L9_100_0 x0 x1 x2 x3 x4 x5 x6 (val (v35 (IntKind.wrap IntKind.i64 (x8 - x9)))) x7 x8 x9 x10 x11 x12 x13 x14))) none) none) (cond (ok (L9_100_0 x0 x1 x2 x3 x4 x5 x6 false x7 x8 x9 x10 x11 x12 x13 x14)) (some (val (L9_100_0 x0 x1 x2 x3 x4 x5 x6 false x7 x8 x9 x10 x11 x12 x13 x14))) none)) none)
def xL9_92_0 (x0 : Bool) (x1 : Int) (x2 : Int) (x3 : Int) (x4 : Int) (x5 : Int) (x6 : Bool) (x7 : Int) (x8 : Int) (x9 : Int) (x10 : Int) (x11 : Int) (x12 : Int) (x13 : Int) (x14 : Int) : Bool → Ex × CS := fun r => (.ret, { sl := [(4, .v (.sc (.bool (r))))], lo := [], h := [], n0 := 0 })
theorem bL9_92_0 (k : Nat) (cX : Ex → CS → Option (Ex × CS)) (x0 : Bool) (x1 : Int) (x2 : Int) (x3 : Int) (x4 : Int) (x5 : Int) (x6 : Bool) (x7 : Int) (x8 : Int) (x9 : Int) (x10 : Int) (x11 : Int) (x12 : Int) (x13 : Int) (x14 : Int) : pieceBody Try.prog (mkTn base o33 t33 9) (TM.evF Try.prog (mkTn base o33 t33) dOk (k + 40)) dOk (k + 40) (codeAt Try.prog (tn0 9) 9 92) 0 92 { sl := [(2, .l 2 0), (3, .l 3 0), (5, .v (.sc (.bool (x0)))), (7, .l 7 0), (8, .v (.sc (.int .i64 (x1)))), (10, .v (.sc (.int .i64 (x2)))), (11, .l 11 0), (12, .v (.sc (.int .i64 (x3)))), (14, .v (.sc (.int .i64 (x4)))), (16, .v (.sc (.int .i64 (x5)))), (17, .v (.sc (.bool (x6))))], lo := [(2, [.int .i64 (x7), .int .i64 (x8)]), (3, [.int .i64 (x9), .int .i64 (x10)]), (7, [.int .i64 (x11), .int .i64 (x12)]), (11, [.int .i64 (x13), .int .i64 (x14)])], h := [], n0 := 0 } cX = (cond (ok (v35 (IntKind.wrap IntKind.i64 (x7 - x10)))) (cond (val (v35 (IntKind.wrap IntKind.i64 (x7 - x10)))) (cond (ok (v35 (IntKind.wrap IntKind.i64 (x8 - x9)))) (cond (ok (L9_100_0 x0 x1 x2 x3 x4 x5 x6 (val (v35 (IntKind.wrap IntKind.i64 (x8 - x9)))) x7 x8 x9 x10 x11 x12 x13 x14)) (cX .ret { sl := [(4, .v (.sc (.bool (val (L9_100_0 x0 x1 x2 x3 x4 x5 x6 (val (v35 (IntKind.wrap IntKind.i64 (x8 - x9)))) x7 x8 x9 x10 x11 x12 x13 x14)))))], lo := [], h := [], n0 := 0 }) none) none) (cond (ok (L9_100_0 x0 x1 x2 x3 x4 x5 x6 false x7 x8 x9 x10 x11 x12 x13 x14)) (cX .ret { sl := [(4, .v (.sc (.bool (val (L9_100_0 x0 x1 x2 x3 x4 x5 x6 false x7 x8 x9 x10 x11 x12 x13 x14)))))], lo := [], h := [], n0 := 0 }) none)) none) := by kernel_rfl
theorem lL9_92_0 (k : Nat) (x0 : Bool) (x1 : Int) (x2 : Int) (x3 : Int) (x4 : Int) (x5 : Int) (x6 : Bool) (x7 : Int) (x8 : Int) (x9 : Int) (x10 : Int) (x11 : Int) (x12 : Int) (x13 : Int) (x14 : Int) (r : Bool) : L9_92_0 x0 x1 x2 x3 x4 x5 x6 x7 x8 x9 x10 x11 x12 x13 x14 = some r → pieceBody Try.prog (mkTn base o33 t33 9) (TM.evF Try.prog (mkTn base o33 t33) dOk (k + 40)) dOk (k + 40) (codeAt Try.prog (tn0 9) 9 92) 0 92 { sl := [(2, .l 2 0), (3, .l 3 0), (5, .v (.sc (.bool (x0)))), (7, .l 7 0), (8, .v (.sc (.int .i64 (x1)))), (10, .v (.sc (.int .i64 (x2)))), (11, .l 11 0), (12, .v (.sc (.int .i64 (x3)))), (14, .v (.sc (.int .i64 (x4)))), (16, .v (.sc (.int .i64 (x5)))), (17, .v (.sc (.bool (x6))))], lo := [(2, [.int .i64 (x7), .int .i64 (x8)]), (3, [.int .i64 (x9), .int .i64 (x10)]), (7, [.int .i64 (x11), .int .i64 (x12)]), (11, [.int .i64 (x13), .int .i64 (x14)])], h := [], n0 := 0 } (fun e s => some (e, s)) = some (xL9_92_0 x0 x1 x2 x3 x4 x5 x6 x7 x8 x9 x10 x11 x12 x13 x14 r) := by
  rw [bL9_92_0]
  unfold L9_92_0
  cases (ok (v35 (IntKind.wrap IntKind.i64 (x7 - x10)))) with
  | true =>
    cases (val (v35 (IntKind.wrap IntKind.i64 (x7 - x10)))) with
    | true =>
      cases (ok (v35 (IntKind.wrap IntKind.i64 (x8 - x9)))) with
      | true =>
        cases (ok (L9_100_0 x0 x1 x2 x3 x4 x5 x6 (val (v35 (IntKind.wrap IntKind.i64 (x8 - x9)))) x7 x8 x9 x10 x11 x12 x13 x14)) with
        | true =>
          intro h; cases h; rfl
        | false =>
          intro h; cases h
      | false =>
        intro h; cases h
    | false =>
      cases (ok (L9_100_0 x0 x1 x2 x3 x4 x5 x6 false x7 x8 x9 x10 x11 x12 x13 x14)) with
      | true =>
        intro h; cases h; rfl
      | false =>
        intro h; cases h
  | false =>
    intro h; cases h
def sL9_92_0 : TellS := fun S => match S with
  | { sl := [(2, .l 2 0), (3, .l 3 0), (5, .v (.sc (.bool (x0)))), (7, .l 7 0), (8, .v (.sc (.int .i64 (x1)))), (10, .v (.sc (.int .i64 (x2)))), (11, .l 11 0), (12, .v (.sc (.int .i64 (x3)))), (14, .v (.sc (.int .i64 (x4)))), (16, .v (.sc (.int .i64 (x5)))), (17, .v (.sc (.bool (x6))))], lo := [(2, [.int .i64 (x7), .int .i64 (x8)]), (3, [.int .i64 (x9), .int .i64 (x10)]), (7, [.int .i64 (x11), .int .i64 (x12)]), (11, [.int .i64 (x13), .int .i64 (x14)])], h := [], n0 := 0 } => some [(ok (L9_92_0 x0 x1 x2 x3 x4 x5 x6 x7 x8 x9 x10 x11 x12 x13 x14), .ret, { sl := [(4, .v (.sc (.bool ((val (L9_92_0 x0 x1 x2 x3 x4 x5 x6 x7 x8 x9 x10 x11 x12 x13 x14))))))], lo := [], h := [], n0 := 0 })]
  | _ => none
theorem wL9_92_0 : NewTell Try.prog dOk base o33 t33 ((9, 92), sL9_92_0) := by
  refine ⟨(codeAt Try.prog (tn0 9) 9 92), 0, by kernel_rfl, ?_⟩
  intro S alts e S' h1 h2
  have h1 : sL9_92_0 S = some alts := h1
  unfold sL9_92_0 at h1
  split at h1
  · cases h1
    obtain ⟨hc0, rfl, rfl⟩ := pick_one h2
    exact ⟨0 + 40, (evPiece_code rfl).trans (lL9_92_0 0 _ _ _ _ _ _ _ _ _ _ _ _ _ _ _ _ (ok_val hc0))⟩
  · cases h1
def o34 : OrcT := o33
def t34 : TellT := ((9, 92), sL9_92_0) :: t33
abbrev tn34 : FuncId → TAn := mkTn base o34 t34
theorem ok34 : TnOk Try.prog tn34 (mkA base) dOk := by
  have h0 : TnOk Try.prog (mkTn base o33 t33) (mkA base) dOk := ok33
  have h1 := tn_tell h0 h0 (p := ((9, 92), sL9_92_0)) wL9_92_0
  exact h1
end Go.Proofs.Ytojbaamhnfinpaa
set_option maxRecDepth 1000000
set_option linter.unusedVariables false
set_option maxHeartbeats 4000000
namespace Go.Proofs.Ytojbaamhnfinpaa
open Go Go.AM Go.TM Go.Proofs
/-- queuelablaw06.IntervalErrors: the piece 84 -/
def L9_84_0 (x0 : Bool) (x1 : Int) (x2 : Int) (x3 : Int) (x4 : Int) (x5 : Int) (x6 : Int) (x7 : Int) (x8 : Int) (x9 : Int) (x10 : Int) (x11 : Int) (x12 : Int) (x13 : Int) : Option Bool := (cond (ok (v35 (IntKind.wrap IntKind.i64 (x6 + x8)))) (cond (val (v35 (IntKind.wrap IntKind.i64 (x6 + x8)))) (cond (ok (v35 (IntKind.wrap IntKind.i64 (x7 + x9)))) (cond (ok (L9_92_0 x0 x1 x2 x3 x4 x5 (val (v35 (IntKind.wrap IntKind.i64 (x7 + x9)))) x6 x7 x8 x9 x10 x11 x12 x13)) (some (val (L9_92_0 x0 x1 x2 x3 x4 x5 (val (v35 (IntKind.wrap IntKind.i64 (x7 + x9)))) x6 x7 x8 x9 x10 x11 x12 x13))) none) none) (cond (ok (L9_92_0 x0 x1 x2 x3 x4 x5 false x6 x7 x8 x9 x10 x11 x12 x13)) (some (val (L9_92_0 x0 x1 x2 x3 x4 x5 false x6 x7 x8 x9 x10 x11 x12 x13))) none)) none)
def xL9_84_0 (x0 : Bool) (x1 : Int) (x2 : Int) (x3 : Int) (x4 : Int) (x5 : Int) (x6 : Int) (x7 : Int) (x8 : Int) (x9 : Int) (x10 : Int) (x11 : Int) (x12 : Int) (x13 : Int) : Bool → Ex × CS := fun r => (.ret, { sl := [(4, .v (.sc (.bool (r))))], lo := [], h := [], n0 := 0 })
theorem bL9_84_0 (k : Nat) (cX : Ex → CS → Option (Ex × CS)) (x0 : Bool) (x1 : Int) (x2 : Int) (x3 : Int) (x4 : Int) (x5 : Int) (x6 : Int) (x7 : Int) (x8 : Int) (x9 : Int) (x10 : Int) (x11 : Int) (x12 : Int) (x13 : Int) : pieceBody Try.prog (mkTn base o34 t34 9) (TM.evF Try.prog (mkTn base o34 t34) dOk (k + 40)) dOk (k + 40) (codeAt Try.prog (tn0 9) 9 84) 0 84 { sl := [(2, .l 2 0), (3, .l 3 0), (5, .v (.sc (.bool (x0)))), (7, .l 7 0), (8, .v (.sc (.int .i64 (x1)))), (9, .l 9 0), (10, .v (.sc (.int .i64 (x2)))), (11, .l 11 0), (12, .v (.sc (.int .i64 (x3)))), (13, .l 13 0), (14, .v (.sc (.int .i64 (x4)))), (15, .l 15 0), (16, .v (.sc (.int .i64 (x5))))], lo := [(2, [.int .i64 (x6), .int .i64 (x7)]), (3, [.int .i64 (x8), .int .i64 (x9)]), (7, [.int .i64 (x10), .int .i64 (x11)]), (11, [.int .i64 (x12), .int .i64 (x13)])], h := [], n0 := 0 } cX = (cond (ok (v35 (IntKind.wrap IntKind.i64 (x6 + x8)))) (cond (val (v35 (IntKind.wrap IntKind.i64 (x6 + x8)))) (cond (ok (v35 (IntKind.wrap IntKind.i64 (x7 + x9)))) (cond (ok (L9_92_0 x0 x1 x2 x3 x4 x5 (val (v35 (IntKind.wrap IntKind.i64 (x7 + x9)))) x6 x7 x8 x9 x10 x11 x12 x13)) (cX .ret { sl := [(4, .v (.sc (.bool (val (L9_92_0 x0 x1 x2 x3 x4 x5 (val (v35 (IntKind.wrap IntKind.i64 (x7 + x9)))) x6 x7 x8 x9 x10 x11 x12 x13)))))], lo := [], h := [], n0 := 0 }) none) none) (cond (ok (L9_92_0 x0 x1 x2 x3 x4 x5 false x6 x7 x8 x9 x10 x11 x12 x13)) (cX .ret { sl := [(4, .v (.sc (.bool (val (L9_92_0 x0 x1 x2 x3 x4 x5 false x6 x7 x8 x9 x10 x11 x12 x13)))))], lo := [], h := [], n0 := 0 }) none)) none) := by kernel_rfl
theorem lL9_84_0 (k : Nat) (x0 : Bool) (x1 : Int) (x2 : Int) (x3 : Int) (x4 : Int) (x5 : Int) (x6 : Int) (x7 : Int) (x8 : Int) (x9 : Int) (x10 : Int) (x11 : Int) (x12 : Int) (x13 : Int) (r : Bool) : L9_84_0 x0 x1 x2 x3 x4 x5 x6 x7 x8 x9 x10 x11 x12 x13 = some r → pieceBody Try.prog (mkTn base o34 t34 9) (TM.evF Try.prog (mkTn base o34 t34) dOk (k + 40)) dOk (k + 40) (codeAt Try.prog (tn0 9) 9 84) 0 84 { sl := [(2, .l 2 0), (3, .l 3 0), (5, .v (.sc (.bool (x0)))), (7, .l 7 0), (8, .v (.sc (.int .i64 (x1)))), (9, .l 9 0), (10, .v (.sc (.int .i64 (x2)))), (11, .l 11 0), (12, .v (.sc (.int .i64 (x3)))), (13, .l 13 0), (14, .v (.sc (.int .i64 (x4)))), (15, .l 15 0), (16, .v (.sc (.int .i64 (x5))))], lo := [(2, [.int .i64 (x6), .int .i64 (x7)]), (3, [.int .i64 (x8), .int .i64 (x9)]), (7, [.int .i64 (x10), .int .i64 (x11)]), (11, [.int .i64 (x12), .int .i64 (x13)])], h := [], n0 := 0 } (fun e s => some (e, s)) = some (xL9_84_0 x0 x1 x2 x3 x4 x5 x6 x7 x8 x9 x10 x11 x12 x13 r) := by
  rw [bL9_84_0]
  unfold L9_84_0
  cases (ok (v35 (IntKind.wrap IntKind.i64 (x6 + x8)))) with
  | true =>
    cases (val (v35 (IntKind.wrap IntKind.i64 (x6 + x8)))) with
    | true =>
      cases (ok (v35 (IntKind.wrap IntKind.i64 (x7 + x9)))) with
      | true =>
        cases (ok (L9_92_0 x0 x1 x2 x3 x4 x5 (val (v35 (IntKind.wrap IntKind.i64 (x7 + x9)))) x6 x7 x8 x9 x10 x11 x12 x13)) with
        | true =>
          intro h; cases h; rfl
        | false =>
          intro h; cases h
      | false =>
        intro h; cases h
    | false =>
      cases (ok (L9_92_0 x0 x1 x2 x3 x4 x5 false x6 x7 x8 x9 x10 x11 x12 x13)) with
      | true =>
        intro h; cases h; rfl
      | false =>
        intro h; cases h
  | false =>
    intro h; cases h
def sL9_84_0 : TellS := fun S => match S with
  | { sl := [(2, .l 2 0), (3, .l 3 0), (5, .v (.sc (.bool (x0)))), (7, .l 7 0), (8, .v (.sc (.int .i64 (x1)))), (9, .l 9 0), (10, .v (.sc (.int .i64 (x2)))), (11, .l 11 0), (12, .v (.sc (.int .i64 (x3)))), (13, .l 13 0), (14, .v (.sc (.int .i64 (x4)))), (15, .l 15 0), (16, .v (.sc (.int .i64 (x5))))], lo := [(2, [.int .i64 (x6), .int .i64 (x7)]), (3, [.int .i64 (x8), .int .i64 (x9)]), (7, [.int .i64 (x10), .int .i64 (x11)]), (11, [.int .i64 (x12), .int .i64 (x13)])], h := [], n0 := 0 } => some [(ok (L9_84_0 x0 x1 x2 x3 x4 x5 x6 x7 x8 x9 x10 x11 x12 x13), .ret, { sl := [(4, .v (.sc (.bool ((val (L9_84_0 x0 x1 x2 x3 x4 x5 x6 x7 x8 x9 x10 x11 x12 x13))))))], lo := [], h := [], n0 := 0 })]
  | _ => none
theorem wL9_84_0 : NewTell Try.prog dOk base o34 t34 ((9, 84), sL9_84_0) := by
  refine ⟨(codeAt Try.prog (tn0 9) 9 84), 0, by kernel_rfl, ?_⟩
  intro S alts e S' h1 h2
  have h1 : sL9_84_0 S = some alts := h1
  unfold sL9_84_0 at h1
  split at h1
  · cases h1
    obtain ⟨hc0, rfl, rfl⟩ := pick_one h2
    exact ⟨0 + 40, (evPiece_code rfl).trans (lL9_84_0 0 _ _ _ _ _ _ _ _ _ _ _ _ _ _ _ (ok_val hc0))⟩
  · cases h1
def o35 : OrcT := o34
def t35 : TellT := ((9, 84), sL9_84_0) :: t34
abbrev tn35 : FuncId → TAn := mkTn base o35 t35
theorem ok35 : TnOk Try.prog tn35 (mkA base) dOk := by
  have h0 : TnOk Try.prog (mkTn base o34 t34) (mkA base) dOk := ok34
  have h1 := tn_tell h0 h0 (p := ((9, 84), sL9_84_0)) wL9_84_0
  exact h1
end Go.Proofs.Ytojbaamhnfinpaa
set_option maxRecDepth 1000000
set_option linter.unusedVariables false
set_option maxHeartbeats 4000000
namespace Go.Proofs.Ytojbaamhnfinpaa
open Go Go.AM Go.TM Go.Proofs
/-- queuelablaw06.IntervalErrors: the piece 28 -/
def L9_28_0 (x0 : Bool) (x1 : Bool) (x2 : Int) (x3 : Int) (x4 : Int) (x5 : Int) : Option Bool := (cond (ok (v11 x2 x3 x4 x5)) (cond (ok (v13 x2 x3 x4 x5)) (cond (ok (v15 x2 x3 x4 x5)) (cond (ok (v17 x2 x3 x4 x5)) (cond (ok (v25 x2 x3 x4 x5)) (cond (!x1) (cond (x0) (cond (Prod.snd (Prod.snd (val (v11 x2 x3 x4 x5))) == (1 : Int)) (cond (Prod.snd (Prod.snd (val (v13 x2 x3 x4 x5))) == (1 : Int)) (cond (Prod.snd (Prod.snd (val (v15 x2 x3 x4 x5))) == (1 : Int)) (cond (Prod.snd (Prod.snd (val (v17 x2 x3 x4 x5))) == (1 : Int)) (cond (Prod.snd (Prod.snd (val (v25 x2 x3 x4 x5))) == (1 : Int)) (cond (Prod.fst (val (v11 x2 x3 x4 x5)) == (0 : Int) && (Prod.fst (Prod.snd (val (v11 x2 x3 x4 x5))) == (0 : Int) && true)) (cond (Prod.fst (val (v13 x2 x3 x4 x5)) == Prod.fst (val (v11 x2 x3 x4 x5)) && (Prod.fst (Prod.snd (val (v13 x2 x3 x4 x5))) == Prod.fst (Prod.snd (val (v11 x2 x3 x4 x5))) && true)) (cond (Prod.fst (val (v15 x2 x3 x4 x5)) == Prod.fst (val (v11 x2 x3 x4 x5)) && (Prod.fst (Prod.snd (val (v15 x2 x3 x4 x5))) == Prod.fst (Prod.snd (val (v11 x2 x3 x4 x5))) && true)) (cond (Prod.fst (val (v17 x2 x3 x4 x5)) == Prod.fst (val (v11 x2 x3 x4 x5)) && (Prod.fst (Prod.snd (val (v17 x2 x3 x4 x5))) == Prod.fst (Prod.snd (val (v11 x2 x3 x4 x5))) && true)) (some (Prod.fst (val (v25 x2 x3 x4 x5)) == Prod.fst (val (v11 x2 x3 x4 x5)) && (Prod.fst (Prod.snd (val (v25 x2 x3 x4 x5))) == Prod.fst (Prod.snd (val (v11 x2 x3 x4 x5))) && true))) (some (false))) (some (false))) (some (false))) (some (false))) (some (false))) (some (false))) (some (false))) (some (false))) (some (false))) (some (false))) (cond (ok (L9_84_0 x0 (Prod.snd (Prod.snd (val (v11 x2 x3 x4 x5)))) (Prod.snd (Prod.snd (val (v13 x2 x3 x4 x5)))) (Prod.snd (Prod.snd (val (v15 x2 x3 x4 x5)))) (Prod.snd (Prod.snd (val (v17 x2 x3 x4 x5)))) (Prod.snd (Prod.snd (val (v25 x2 x3 x4 x5)))) x2 x3 x4 x5 (Prod.fst (val (v11 x2 x3 x4 x5))) (Prod.fst (Prod.snd (val (v11 x2 x3 x4 x5)))) (Prod.fst (val (v15 x2 x3 x4 x5))) (Prod.fst (Prod.snd (val (v15 x2 x3 x4 x5)))))) (some (val (L9_84_0 x0 (Prod.snd (Prod.snd (val (v11 x2 x3 x4 x5)))) (Prod.snd (Prod.snd (val (v13 x2 x3 x4 x5)))) (Prod.snd (Prod.snd (val (v15 x2 x3 x4 x5)))) (Prod.snd (Prod.snd (val (v17 x2 x3 x4 x5)))) (Prod.snd (Prod.snd (val (v25 x2 x3 x4 x5)))) x2 x3 x4 x5 (Prod.fst (val (v11 x2 x3 x4 x5))) (Prod.fst (Prod.snd (val (v11 x2 x3 x4 x5)))) (Prod.fst (val (v15 x2 x3 x4 x5))) (Prod.fst (Prod.snd (val (v15 x2 x3 x4 x5))))))) none)) none) none) none) none) none)
def xL9_28_0 (x0 : Bool) (x1 : Bool) (x2 : Int) (x3 : Int) (x4 : Int) (x5 : Int) : Bool → Ex × CS := fun r => (.ret, { sl := [(4, .v (.sc (.bool (r))))], lo := [], h := [], n0 := 0 })
theorem bL9_28_0 (k : Nat) (cX : Ex → CS → Option (Ex × CS)) (x0 : Bool) (x1 : Bool) (x2 : Int) (x3 : Int) (x4 : Int) (x5 : Int) : pieceBody Try.prog (mkTn base o35 t35 9) (TM.evF Try.prog (mkTn base o35 t35) dOk (k + 40)) dOk (k + 40) (codeAt Try.prog (tn0 9) 9 28) 0 28 { sl := [(2, .l 2 0), (3, .l 3 0), (5, .v (.sc (.bool (x0)))), (6, .v (.sc (.bool (x1))))], lo := [(2, [.int .i64 (x2), .int .i64 (x3)]), (3, [.int .i64 (x4), .int .i64 (x5)])], h := [], n0 := 0 } cX = (cond (ok (v11 x2 x3 x4 x5)) (cond (ok (v13 x2 x3 x4 x5)) (cond (ok (v15 x2 x3 x4 x5)) (cond (ok (v17 x2 x3 x4 x5)) (cond (ok (v25 x2 x3 x4 x5)) (cond (!x1) (cond (x0) (cond (Prod.snd (Prod.snd (val (v11 x2 x3 x4 x5))) == (1 : Int)) (cond (Prod.snd (Prod.snd (val (v13 x2 x3 x4 x5))) == (1 : Int)) (cond (Prod.snd (Prod.snd (val (v15 x2 x3 x4 x5))) == (1 : Int)) (cond (Prod.snd (Prod.snd (val (v17 x2 x3 x4 x5))) == (1 : Int)) (cond (Prod.snd (Prod.snd (val (v25 x2 x3 x4 x5))) == (1 : Int)) (cond (Prod.fst (val (v11 x2 x3 x4 x5)) == (0 : Int) && (Prod.fst (Prod.snd (val (v11 x2 x3 x4 x5))) == (0 : Int) && true)) (cond (Prod.fst (val (v13 x2 x3 x4 x5)) == Prod.fst (val (v11 x2 x3 x4 x5)) && (Prod.fst (Prod.snd (val (v13 x2 x3 x4 x5))) == Prod.fst (Prod.snd (val (v11 x2 x3 x4 x5))) && true)) (cond (Prod.fst (val (v15 x2 x3 x4 x5)) == Prod.fst (val (v11 x2 x3 x4 x5)) && (Prod.fst (Prod.snd (val (v15 x2 x3 x4 x5))) == Prod.fst (Prod.snd (val (v11 x2 x3 x4 x5))) && true)) (cond (Prod.fst (val (v17 x2 x3 x4 x5)) == Prod.fst (val (v11 x2 x3 x4 x5)) && (Prod.fst (Prod.snd (val (v17 x2 x3 x4 x5))) == Prod.fst (Prod.snd (val (v11 x2 x3 x4 x5))) && true)) (cX .ret { sl := [(4, .v (.sc (.bool (Prod.fst (val (v25 x2 x3 x4 x5)) == Prod.fst (val (v11 x2 x3 x4 x5)) && (Prod.fst (Prod.snd (val (v25 x2 x3 x4 x5))) == Prod.fst (Prod.snd (val (v11 x2 x3 x4 x5))) && true)))))], lo := [], h := [], n0 := 0 }) (cX .ret { sl := [(4, .v (.sc (.bool (false))))], lo := [], h := [], n0 := 0 })) (cX .ret { sl := [(4, .v (.sc (.bool (false))))], lo := [], h := [], n0 := 0 })) (cX .ret { sl := [(4, .v (.sc (.bool (false))))], lo := [], h := [], n0 := 0 })) (cX .ret { sl := [(4, .v (.sc (.bool (false))))], lo := [], h := [], n0 := 0 })) (cX .ret { sl := [(4, .v (.sc (.bool (false))))], lo := [], h := [], n0 := 0 })) (cX .ret { sl := [(4, .v (.sc (.bool (false))))], lo := [], h := [], n0 := 0 })) (cX .ret { sl := [(4, .v (.sc (.bool (false))))], lo := [], h := [], n0 := 0 })) (cX .ret { sl := [(4, .v (.sc (.bool (false))))], lo := [], h := [], n0 := 0 })) (cX .ret { sl := [(4, .v (.sc (.bool (false))))], lo := [], h := [], n0 := 0 })) (cX .ret { sl := [(4, .v (.sc (.bool (false))))], lo := [], h := [], n0 := 0 })) (cond (ok (L9_84_0 x0 (Prod.snd (Prod.snd (val (v11 x2 x3 x4 x5)))) (Prod.snd (Prod.snd (val (v13 x2 x3 x4 x5)))) (Prod.snd (Prod.snd (val (v15 x2 x3 x4 x5)))) (Prod.snd (Prod.snd (val (v17 x2 x3 x4 x5)))) (Prod.snd (Prod.snd (val (v25 x2 x3 x4 x5)))) x2 x3 x4 x5 (Prod.fst (val (v11 x2 x3 x4 x5))) (Prod.fst (Prod.snd (val (v11 x2 x3 x4 x5)))) (Prod.fst (val (v15 x2 x3 x4 x5))) (Prod.fst (Prod.snd (val (v15 x2 x3 x4 x5)))))) (cX .ret { sl := [(4, .v (.sc (.bool (val (L9_84_0 x0 (Prod.snd (Prod.snd (val (v11 x2 x3 x4 x5)))) (Prod.snd (Prod.snd (val (v13 x2 x3 x4 x5)))) (Prod.snd (Prod.snd (val (v15 x2 x3 x4 x5)))) (Prod.snd (Prod.snd (val (v17 x2 x3 x4 x5)))) (Prod.snd (Prod.snd (val (v25 x2 x3 x4 x5)))) x2 x3 x4 x5 (Prod.fst (val (v11 x2 x3 x4 x5))) (Prod.fst (Prod.snd (val (v11 x2 x3 x4 x5)))) (Prod.fst (val (v15 x2 x3 x4 x5))) (Prod.fst (Prod.snd (val (v15 x2 x3 x4 x5)))))))))], lo := [], h := [], n0 := 0 }) none)) none) none) none) none) none) := by kernel_rfl
theorem lL9_28_0 (k : Nat) (x0 : Bool) (x1 : Bool) (x2 : Int) (x3 : Int) (x4 : Int) (x5 : Int) (r : Bool) : L9_28_0 x0 x1 x2 x3 x4 x5 = some r → pieceBody Try.prog (mkTn base o35 t35 9) (TM.evF Try.prog (mkTn base o35 t35) dOk (k + 40)) dOk (k + 40) (codeAt Try.prog (tn0 9) 9 28) 0 28 { sl := [(2, .l 2 0), (3, .l 3 0), (5, .v (.sc (.bool (x0)))), (6, .v (.sc (.bool (x1))))], lo := [(2, [.int .i64 (x2), .int .i64 (x3)]), (3, [.int .i64 (x4), .int .i64 (x5)])], h := [], n0 := 0 } (fun e s => some (e, s)) = some (xL9_28_0 x0 x1 x2 x3 x4 x5 r) := by
  rw [bL9_28_0]
  unfold L9_28_0
  cases (ok (v11 x2 x3 x4 x5)) with
  | true =>
    cases (ok (v13 x2 x3 x4 x5)) with
    | true =>
      cases (ok (v15 x2 x3 x4 x5)) with
      | true =>
        cases (ok (v17 x2 x3 x4 x5)) with
        | true =>
          cases (ok (v25 x2 x3 x4 x5)) with
          | true =>
            cases (!x1) with
            | true =>
              cases x0 with
              | true =>
                cases (Prod.snd (Prod.snd (val (v11 x2 x3 x4 x5))) == (1 : Int)) with
                | true =>
                  cases (Prod.snd (Prod.snd (val (v13 x2 x3 x4 x5))) == (1 : Int)) with
                  | true =>
                    cases (Prod.snd (Prod.snd (val (v15 x2 x3 x4 x5))) == (1 : Int)) with
                    | true =>
                      cases (Prod.snd (Prod.snd (val (v17 x2 x3 x4 x5))) == (1 : Int)) with
                      | true =>
                        cases (Prod.snd (Prod.snd (val (v25 x2 x3 x4 x5))) == (1 : Int)) with
                        | true =>
                          cases (Prod.fst (val (v11 x2 x3 x4 x5)) == (0 : Int) && (Prod.fst (Prod.snd (val (v11 x2 x3 x4 x5))) == (0 : Int) && true)) with
                          | true =>
                            cases (Prod.fst (val (v13 x2 x3 x4 x5)) == Prod.fst (val (v11 x2 x3 x4 x5)) && (Prod.fst (Prod.snd (val (v13 x2 x3 x4 x5))) == Prod.fst (Prod.snd (val (v11 x2 x3 x4 x5))) && true)) with
                            | true =>
                              cases (Prod.fst (val (v15 x2 x3 x4 x5)) == Prod.fst (val (v11 x2 x3 x4 x5)) && (Prod.fst (Prod.snd (val (v15 x2 x3 x4 x5))) == Prod.fst (Prod.snd (val (v11 x2 x3 x4 x5))) && true)) with
                              | true =>
                                cases (Prod.fst (val (v17 x2 x3 x4 x5)) == Prod.fst (val (v11 x2 x3 x4 x5)) && (Prod.fst (Prod.snd (val (v17 x2 x3 x4 x5))) == Prod.fst (Prod.snd (val (v11 x2 x3 x4 x5))) && true)) with
                                | true =>
                                  intro h; cases h; rfl
                                | false =>
                                  intro h; cases h; rfl
                              | false =>
                                intro h; cases h; rfl
                            | false =>
                              intro h; cases h; rfl
                          | false =>
                            intro h; cases h; rfl
                        | false =>
                          intro h; cases h; rfl
                      | false =>
                        intro h; cases h; rfl
                    | false =>
                      intro h; cases h; rfl
                  | false =>
                    intro h; cases h; rfl
                | false =>
                  intro h; cases h; rfl
              | false =>
                intro h; cases h; rfl
            | false =>
              cases (ok (L9_84_0 x0 (Prod.snd (Prod.snd (val (v11 x2 x3 x4 x5)))) (Prod.snd (Prod.snd (val (v13 x2 x3 x4 x5)))) (Prod.snd (Prod.snd (val (v15 x2 x3 x4 x5)))) (Prod.snd (Prod.snd (val (v17 x2 x3 x4 x5)))) (Prod.snd (Prod.snd (val (v25 x2 x3 x4 x5)))) x2 x3 x4 x5 (Prod.fst (val (v11 x2 x3 x4 x5))) (Prod.fst (Prod.snd (val (v11 x2 x3 x4 x5)))) (Prod.fst (val (v15 x2 x3 x4 x5))) (Prod.fst (Prod.snd (val (v15 x2 x3 x4 x5)))))) with
              | true =>
                intro h; cases h; rfl
              | false =>
                intro h; cases h
          | false =>
            intro h; cases h
        | false =>
          intro h; cases h
      | false =>
        intro h; cases h
    | false =>
      intro h; cases h
  | false =>
    intro h; cases h
def sL9_28_0 : TellS := fun S => match S with
  | { sl := [(2, .l 2 0), (3, .l 3 0), (5, .v (.sc (.bool (x0)))), (6, .v (.sc (.bool (x1))))], lo := [(2, [.int .i64 (x2), .int .i64 (x3)]), (3, [.int .i64 (x4), .int .i64 (x5)])], h := [], n0 := 0 } => some [(ok (L9_28_0 x0 x1 x2 x3 x4 x5), .ret, { sl := [(4, .v (.sc (.bool ((val (L9_28_0 x0 x1 x2 x3 x4 x5))))))], lo := [], h := [], n0 := 0 })]
  | _ => none
theorem wL9_28_0 : NewTell Try.prog dOk base o35 t35 ((9, 28), sL9_28_0) := by
  refine ⟨(codeAt Try.prog (tn0 9) 9 28), 0, by kernel_rfl, ?_⟩
  intro S alts e S' h1 h2
  have h1 : sL9_28_0 S = some alts := h1
  unfold sL9_28_0 at h1
  split at h1
  · cases h1
    obtain ⟨hc0, rfl, rfl⟩ := pick_one h2
    exact ⟨0 + 40, (evPiece_code rfl).trans (lL9_28_0 0 _ _ _ _ _ _ _ (ok_val hc0))⟩
  · cases h1
def o36 : OrcT := o35
def t36 : TellT := ((9, 28), sL9_28_0) :: t35
abbrev tn36 : FuncId → TAn := mkTn base o36 t36
theorem ok36 : TnOk Try.prog tn36 (mkA base) dOk := by
  have h0 : TnOk Try.prog (mkTn base o35 t35) (mkA base) dOk := ok35
  have h1 := tn_tell h0 h0 (p := ((9, 28), sL9_28_0)) wL9_28_0
  exact h1
end Go.Proofs.Ytojbaamhnfinpaa
