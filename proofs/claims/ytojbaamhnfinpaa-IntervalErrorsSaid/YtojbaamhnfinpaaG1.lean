/- What some functions and loops come to: printed and checked. Written by a program of ours. -/
import Derived.Test.YtojbaamhnfinpaaG0
set_option linter.all false
set_option linter.constructorNameAsVariable false
set_option linter.unnecessarySimpa false
set_option linter.unusedSimpArgs false
set_option linter.unusedVariables false
set_option maxRecDepth 1000000
set_option linter.unusedVariables false
set_option maxHeartbeats 4000000
namespace Go.Proofs.Ytojbaamhnfinpaa
open Go Go.AM Go.TM Go.Proofs
/-- queuelablaw06.IntervalErrors -/
def v9 (x0 : Int) (x1 : Int) (x2 : Int) (x3 : Int) : Option Bool := (cond (ok (v28 x0 x1)) (cond (val (v28 x0 x1)) (cond (ok (v28 x2 x3)) (cond (ok (L9_28_0 (val v10) (val (v28 x2 x3)) x0 x1 x2 x3)) (some (val (L9_28_0 (val v10) (val (v28 x2 x3)) x0 x1 x2 x3))) none) none) (cond (ok (L9_28_0 (val v10) false x0 x1 x2 x3)) (some (val (L9_28_0 (val v10) false x0 x1 x2 x3))) none)) none)
theorem ev9 (x0 : Int) (x1 : Int) (x2 : Int) (x3 : Int) : fnBody Try.prog (mkTn base o36 t36 9) (TM.evF Try.prog (mkTn base o36 t36) dOk 40) dOk 40 9 [.agg [.int .i64 (x0), .int .i64 (x1)], .agg [.int .i64 (x2), .int .i64 (x3)]] [] = (v9 x0 x1 x2 x3).bind fun r => some ([.sc (.bool (r))], []) := by
  have h : fnBody Try.prog (mkTn base o36 t36 9) (TM.evF Try.prog (mkTn base o36 t36) dOk 40) dOk 40 9 [.agg [.int .i64 (x0), .int .i64 (x1)], .agg [.int .i64 (x2), .int .i64 (x3)]] [] = (cond (ok (v28 x0 x1)) (cond (val (v28 x0 x1)) (cond (ok (v28 x2 x3)) (cond (ok (L9_28_0 (val v10) (val (v28 x2 x3)) x0 x1 x2 x3)) (some ([.sc (.bool (val (L9_28_0 (val v10) (val (v28 x2 x3)) x0 x1 x2 x3)))], [])) none) none) (cond (ok (L9_28_0 (val v10) false x0 x1 x2 x3)) (some ([.sc (.bool (val (L9_28_0 (val v10) false x0 x1 x2 x3)))], [])) none)) none) := by kernel_rfl
  rw [h]
  unfold v9
  cases (ok (v28 x0 x1)) with
  | true =>
    cases (val (v28 x0 x1)) with
    | true =>
      cases (ok (v28 x2 x3)) with
      | true =>
        cases (ok (L9_28_0 (val v10) (val (v28 x2 x3)) x0 x1 x2 x3)) with
        | true =>
          rfl
        | false =>
          rfl
      | false =>
        rfl
    | false =>
      cases (ok (L9_28_0 (val v10) false x0 x1 x2 x3)) with
      | true =>
        rfl
      | false =>
        rfl
  | false =>
    rfl
def sv9 : OrcS := fun al H => match al, H with
  | [.agg [.int .i64 (x0), .int .i64 (x1)], .agg [.int .i64 (x2), .int .i64 (x3)]], [] => some (ok (v9 x0 x1 x2 x3), [.sc (.bool ((val (v9 x0 x1 x2 x3))))], [])
  | _, _ => none
theorem wv9 : NewOrc Try.prog dOk base o36 t36 (9, sv9) := by
  intro al H q hq hq1
  have hq : sv9 al H = some q := hq
  unfold sv9 at hq
  split at hq
  · cases hq
    exact ⟨41, (ev9 _ _ _ _).trans (ok_bind hq1)⟩
  · cases hq
def o37 : OrcT := (9, sv9) :: o36
def t37 : TellT := t36
abbrev tn37 : FuncId → TAn := mkTn base o37 t37
theorem ok37 : TnOk Try.prog tn37 (mkA base) dOk := by
  have h0 : TnOk Try.prog (mkTn base o36 t36) (mkA base) dOk := ok36
  have h1 := tn_orc h0 h0 (p := (9, sv9)) wv9
  exact h1
end Go.Proofs.Ytojbaamhnfinpaa
