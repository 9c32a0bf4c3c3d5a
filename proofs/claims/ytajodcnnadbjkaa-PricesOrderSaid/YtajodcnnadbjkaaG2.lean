/- What some functions and loops come to: printed and checked. Written by a program of ours. -/
import Derived.Test.YtajodcnnadbjkaaG1
set_option linter.all false
set_option linter.constructorNameAsVariable false
set_option linter.unnecessarySimpa false
set_option linter.unusedSimpArgs false
set_option linter.unusedVariables false
set_option maxRecDepth 1000000
set_option linter.unusedVariables false
set_option maxHeartbeats 4000000
namespace Go.Proofs.Ytajodcnnadbjkaa
open Go Go.AM Go.TM Go.Proofs
noncomputable def v6 (x0 : (List Int)) (x1 : (List (List (List Int)))) (x2 : (List (List Int))) (x3 : (List Int)) (x4 : Int) : Option Bool := (cond (ok (v10 x0 x1 x2 x3)) (cond (!val (v10 x0 x1 x2 x3)) (some (true)) (cond ((↑(List.length x2) : Int) != (↑(List.length x1) : Int)) (some (true)) (cond (ok (L6_36_0 x2 x3 x4 (val v9) x0 x1)) (some (val (L6_36_0 x2 x3 x4 (val v9) x0 x1))) none))) none)
theorem ev6 (x0 : (List Int)) (x1 : (List (List (List Int)))) (x2 : (List (List Int))) (x3 : (List Int)) (x4 : Int) : fnBody Try.prog (mkTn base o66 t66 6) (TM.evF Try.prog (mkTn base o66 t66) dOk 40) dOk 40 6 [.agg [.d 3 (.int .i64) (x0), .d 26 (.list 22 (.list 3 (.int .i64))) (x1)], .sc (.d 22 (.list 3 (.int .i64)) (x2)), .sc (.d 3 (.int .i64) (x3)), .sc (.int .u8 (x4))] [] = (v6 x0 x1 x2 x3 x4).bind fun r => some ([.sc (.bool (r))], []) := by
  refine Eq.trans (b := (cond (ok (v10 x0 x1 x2 x3)) (cond (!val (v10 x0 x1 x2 x3)) (some ([.sc (.bool (true))], [])) (cond ((↑(List.length x2) : Int) != (↑(List.length x1) : Int)) (some ([.sc (.bool (true))], [])) (cond (ok (L6_36_0 x2 x3 x4 (val v9) x0 x1)) (some ([.sc (.bool (val (L6_36_0 x2 x3 x4 (val v9) x0 x1)))], [])) none))) none)) (by kernel_rfl) ?_
  unfold v6
  refine cond_bd ?_ ?_
  · refine cond_bd ?_ ?_
    · rfl
    · refine cond_bd ?_ ?_
      · rfl
      · refine cond_bd ?_ ?_
        · rfl
        · rfl
  · rfl
noncomputable def sv6 : OrcS := fun al H => dC al fun y1 l2 => dA y1 fun y3 => dC y3 fun y4 l5 => dD 3 (.int .i64) y4 fun x0 => dC l5 fun y6 l7 => dD 26 (.list 22 (.list 3 (.int .i64))) y6 fun x1 => dE l7 <| dC l2 fun y8 l9 => dS y8 fun y10 => dD 22 (.list 3 (.int .i64)) y10 fun x2 => dC l9 fun y11 l12 => dS y11 fun y13 => dD 3 (.int .i64) y13 fun x3 => dC l12 fun y14 l15 => dS y14 fun y16 => dInt .u8 y16 fun x4 => dE l15 <| dE H <|  some [(ok (v6 x0 x1 x2 x3 x4), [.sc (.bool ((val (v6 x0 x1 x2 x3 x4))))], [])]
theorem wv6 : NewOrc Try.prog dOk base o66 t66 (6, sv6) := by
  intro al H q hq0 rs H2 h2
  have hq : sv6 al H = some q := hq0
  clear hq0
  unfold sv6 at hq
  replace hq := dC_some hq; obtain ⟨y1, l2, rfl, hq⟩ := hq
  replace hq := dA_some hq; obtain ⟨y3, rfl, hq⟩ := hq
  replace hq := dC_some hq; obtain ⟨y4, l5, rfl, hq⟩ := hq
  replace hq := dD_some hq; obtain ⟨x0, rfl, hq⟩ := hq
  replace hq := dC_some hq; obtain ⟨y6, l7, rfl, hq⟩ := hq
  replace hq := dD_some hq; obtain ⟨x1, rfl, hq⟩ := hq
  replace hq := dE_some hq; obtain ⟨rfl, hq⟩ := hq
  replace hq := dC_some hq; obtain ⟨y8, l9, rfl, hq⟩ := hq
  replace hq := dS_some hq; obtain ⟨y10, rfl, hq⟩ := hq
  replace hq := dD_some hq; obtain ⟨x2, rfl, hq⟩ := hq
  replace hq := dC_some hq; obtain ⟨y11, l12, rfl, hq⟩ := hq
  replace hq := dS_some hq; obtain ⟨y13, rfl, hq⟩ := hq
  replace hq := dD_some hq; obtain ⟨x3, rfl, hq⟩ := hq
  replace hq := dC_some hq; obtain ⟨y14, l15, rfl, hq⟩ := hq
  replace hq := dS_some hq; obtain ⟨y16, rfl, hq⟩ := hq
  replace hq := dInt_some hq; obtain ⟨x4, rfl, hq⟩ := hq
  replace hq := dE_some hq; obtain ⟨rfl, hq⟩ := hq
  replace hq := dE_some hq; obtain ⟨rfl, hq⟩ := hq
  cases hq
  obtain ⟨hc0, rfl, rfl⟩ := pickR_one h2
  exact ⟨41, (fn_eq (by kernel_rfl)).trans ((ev6 _ _ _ _ _).trans (bind_of (ok_val hc0)))⟩
noncomputable def o67 : OrcT := (6, sv6) :: o66
noncomputable def t67 : TellT := t66
noncomputable abbrev tn67 : FuncId → TAn := mkTn base o67 t67
theorem ok67 : TnOk Try.prog tn67 (mkA base) dOk := by
  have h0 : TnOk Try.prog (mkTn base o66 t66) (mkA base) dOk := ok66
  have h1 := tn_orc h0 h0 (p := (6, sv6)) wv6
  exact h1
end Go.Proofs.Ytajodcnnadbjkaa
