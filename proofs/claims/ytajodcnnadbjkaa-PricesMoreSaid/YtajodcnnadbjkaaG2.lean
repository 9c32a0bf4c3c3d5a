/- What some functions and loops come to: printed and checked. Written by a program of ours. -/
import Derived.Test.YtajodcnnadbjkaaG1
set_option linter.all false
set_option linter.constructorNameAsVariable false
set_option linter.unnecessarySimpa false
set_option linter.unusedSimpArgs false
set_option linter.unusedVariables false
set_option maxRecDepth 1000000
set_option linter.unusedVariables false
set_option maxHeartbeats 4000000
namespace Go.Proofs.Ytajodcnnadbjkaa
open Go Go.AM Go.TM Go.Proofs
noncomputable def v11 (x0 : (List Int)) (x1 : (List (List (List Int)))) (x2 : (List (List Int))) (x3 : (List Int)) : Option (Int × Int) := (cond (ok (v13 x0 x1)) (cond (!val (v13 x0 x1)) (some ((0 : Int), (1 : Int))) (cond (ok (v26 x0 x1 x2 x3)) (cond (!val (v26 x0 x1 x2 x3)) (some ((0 : Int), (1 : Int))) (cond (ok (v27 x0 x1 x2 x3)) (cond (!val (v27 x0 x1 x2 x3)) (some ((0 : Int), (17 : Int))) (cond (ok (v28 x0 x1 x3)) (cond (decide (max (0 : Int) (IntKind.wrap IntKind.i64 (val (v28 x0 x1 x3) - IntKind.wrap IntKind.i64 ((1000000 : Int) * (↑(List.length x1) : Int)))) > (1000000000000 : Int))) (some ((0 : Int), (3 : Int))) (some (max (0 : Int) (IntKind.wrap IntKind.i64 (val (v28 x0 x1 x3) - IntKind.wrap IntKind.i64 ((1000000 : Int) * (↑(List.length x1) : Int)))), (0 : Int)))) none)) none)) none)) none)
theorem ev11 (x0 : (List Int)) (x1 : (List (List (List Int)))) (x2 : (List (List Int))) (x3 : (List Int)) : fnBody Try.prog (mkTn base o66 t66 11) (TM.evF Try.prog (mkTn base o66 t66) dOk 40) dOk 40 11 [.agg [.d 3 (.int .i64) (x0), .d 26 (.list 22 (.list 3 (.int .i64))) (x1)], .sc (.d 22 (.list 3 (.int .i64)) (x2)), .sc (.d 3 (.int .i64) (x3))] [] = (v11 x0 x1 x2 x3).bind fun r => some ([.sc (.int .i64 (r.1)), .sc (.int .i64 (r.2))], []) := by
  refine Eq.trans (b := (cond (ok (v13 x0 x1)) (cond (!val (v13 x0 x1)) (some ([.sc (.int .i64 ((0 : Int))), .sc (.int .i64 ((1 : Int)))], [])) (cond (ok (v26 x0 x1 x2 x3)) (cond (!val (v26 x0 x1 x2 x3)) (some ([.sc (.int .i64 ((0 : Int))), .sc (.int .i64 ((1 : Int)))], [])) (cond (ok (v27 x0 x1 x2 x3)) (cond (!val (v27 x0 x1 x2 x3)) (some ([.sc (.int .i64 ((0 : Int))), .sc (.int .i64 ((17 : Int)))], [])) (cond (ok (v28 x0 x1 x3)) (cond (decide (max (0 : Int) (IntKind.wrap IntKind.i64 (val (v28 x0 x1 x3) - IntKind.wrap IntKind.i64 ((1000000 : Int) * (↑(List.length x1) : Int)))) > (1000000000000 : Int))) (some ([.sc (.int .i64 ((0 : Int))), .sc (.int .i64 ((3 : Int)))], [])) (some ([.sc (.int .i64 (max (0 : Int) (IntKind.wrap IntKind.i64 (val (v28 x0 x1 x3) - IntKind.wrap IntKind.i64 ((1000000 : Int) * (↑(List.length x1) : Int)))))), .sc (.int .i64 ((0 : Int)))], []))) none)) none)) none)) none)) (by kernel_rfl) ?_
  unfold v11
  cases (ok (v13 x0 x1)) with
  | true =>
    cases (!val (v13 x0 x1)) with
    | true =>
      rfl
    | false =>
      cases (ok (v26 x0 x1 x2 x3)) with
      | true =>
        cases (!val (v26 x0 x1 x2 x3)) with
        | true =>
          rfl
        | false =>
          cases (ok (v27 x0 x1 x2 x3)) with
          | true =>
            cases (!val (v27 x0 x1 x2 x3)) with
            | true =>
              rfl
            | false =>
              cases (ok (v28 x0 x1 x3)) with
              | true =>
                cases (decide (max (0 : Int) (IntKind.wrap IntKind.i64 (val (v28 x0 x1 x3) - IntKind.wrap IntKind.i64 ((1000000 : Int) * (↑(List.length x1) : Int)))) > (1000000000000 : Int))) with
                | true =>
                  rfl
                | false =>
                  rfl
              | false =>
                rfl
          | false =>
            rfl
      | false =>
        rfl
  | false =>
    rfl
noncomputable def sv11 : OrcS := fun al H => dC al fun y1 l2 => dA y1 fun y3 => dC y3 fun y4 l5 => dD 3 (.int .i64) y4 fun x0 => dC l5 fun y6 l7 => dD 26 (.list 22 (.list 3 (.int .i64))) y6 fun x1 => dE l7 <| dC l2 fun y8 l9 => dS y8 fun y10 => dD 22 (.list 3 (.int .i64)) y10 fun x2 => dC l9 fun y11 l12 => dS y11 fun y13 => dD 3 (.int .i64) y13 fun x3 => dE l12 <| dE H <|  some [(ok (v11 x0 x1 x2 x3), [.sc (.int .i64 ((val (v11 x0 x1 x2 x3)).1)), .sc (.int .i64 ((val (v11 x0 x1 x2 x3)).2))], [])]
theorem wv11 : NewOrc Try.prog dOk base o66 t66 (11, sv11) := by
  intro al H q hq0 rs H2 h2
  have hq : sv11 al H = some q := hq0
  clear hq0
  unfold sv11 at hq
  replace hq := dC_some hq; obtain ⟨y1, l2, rfl, hq⟩ := hq
  replace hq := dA_some hq; obtain ⟨y3, rfl, hq⟩ := hq
  replace hq := dC_some hq; obtain ⟨y4, l5, rfl, hq⟩ := hq
  replace hq := dD_some hq; obtain ⟨x0, rfl, hq⟩ := hq
  replace hq := dC_some hq; obtain ⟨y6, l7, rfl, hq⟩ := hq
  replace hq := dD_some hq; obtain ⟨x1, rfl, hq⟩ := hq
  replace hq := dE_some hq; obtain ⟨rfl, hq⟩ := hq
  replace hq := dC_some hq; obtain ⟨y8, l9, rfl, hq⟩ := hq
  replace hq := dS_some hq; obtain ⟨y10, rfl, hq⟩ := hq
  replace hq := dD_some hq; obtain ⟨x2, rfl, hq⟩ := hq
  replace hq := dC_some hq; obtain ⟨y11, l12, rfl, hq⟩ := hq
  replace hq := dS_some hq; obtain ⟨y13, rfl, hq⟩ := hq
  replace hq := dD_some hq; obtain ⟨x3, rfl, hq⟩ := hq
  replace hq := dE_some hq; obtain ⟨rfl, hq⟩ := hq
  replace hq := dE_some hq; obtain ⟨rfl, hq⟩ := hq
  cases hq
  obtain ⟨hc0, rfl, rfl⟩ := pickR_one h2
  exact ⟨41, (fn_eq (by kernel_rfl)).trans ((ev11 _ _ _ _).trans (bind_of (ok_val hc0)))⟩
noncomputable def o67 : OrcT := (11, sv11) :: o66
noncomputable def t67 : TellT := t66
noncomputable abbrev tn67 : FuncId → TAn := mkTn base o67 t67
theorem ok67 : TnOk Try.prog tn67 (mkA base) dOk := by
  have h0 : TnOk Try.prog (mkTn base o66 t66) (mkA base) dOk := ok66
  have h1 := tn_orc h0 h0 (p := (11, sv11)) wv11
  exact h1
noncomputable def v15 (x0 : (List Int)) (x1 : (List (List (List Int)))) (x2 : (List (List Int))) (x3 : (List Int)) (x4 : Int) : Option Bool := (cond (ok (v11 x0 x1 x2 x3)) (cond (Prod.snd (val (v11 x0 x1 x2 x3)) == (0 : Int)) (cond (ok (v31 x4 (Prod.fst (val (v11 x0 x1 x2 x3))) (1000000000000 : Int))) (some (val (v31 x4 (Prod.fst (val (v11 x0 x1 x2 x3))) (1000000000000 : Int)))) none) (some (false))) none)
theorem ev15 (x0 : (List Int)) (x1 : (List (List (List Int)))) (x2 : (List (List Int))) (x3 : (List Int)) (x4 : Int) : fnBody Try.prog (mkTn base o67 t67 15) (TM.evF Try.prog (mkTn base o67 t67) dOk 40) dOk 40 15 [.agg [.d 3 (.int .i64) (x0), .d 26 (.list 22 (.list 3 (.int .i64))) (x1)], .agg [.d 22 (.list 3 (.int .i64)) (x2), .d 3 (.int .i64) (x3), .int .i64 (x4)]] [] = (v15 x0 x1 x2 x3 x4).bind fun r => some ([.sc (.bool (r))], []) := by
  refine Eq.trans (b := (cond (ok (v11 x0 x1 x2 x3)) (cond (Prod.snd (val (v11 x0 x1 x2 x3)) == (0 : Int)) (cond (ok (v31 x4 (Prod.fst (val (v11 x0 x1 x2 x3))) (1000000000000 : Int))) (some ([.sc (.bool (val (v31 x4 (Prod.fst (val (v11 x0 x1 x2 x3))) (1000000000000 : Int))))], [])) none) (some ([.sc (.bool (false))], []))) none)) (by kernel_rfl) ?_
  unfold v15
  cases (ok (v11 x0 x1 x2 x3)) with
  | true =>
    cases (Prod.snd (val (v11 x0 x1 x2 x3)) == (0 : Int)) with
    | true =>
      cases (ok (v31 x4 (Prod.fst (val (v11 x0 x1 x2 x3))) (1000000000000 : Int))) with
      | true =>
        rfl
      | false =>
        rfl
    | false =>
      rfl
  | false =>
    rfl
noncomputable def sv15 : OrcS := fun al H => dC al fun y1 l2 => dA y1 fun y3 => dC y3 fun y4 l5 => dD 3 (.int .i64) y4 fun x0 => dC l5 fun y6 l7 => dD 26 (.list 22 (.list 3 (.int .i64))) y6 fun x1 => dE l7 <| dC l2 fun y8 l9 => dA y8 fun y10 => dC y10 fun y11 l12 => dD 22 (.list 3 (.int .i64)) y11 fun x2 => dC l12 fun y13 l14 => dD 3 (.int .i64) y13 fun x3 => dCI .i64 l14 fun x4 l15 => dE l15 <| dE l9 <| dE H <|  some [(ok (v15 x0 x1 x2 x3 x4), [.sc (.bool ((val (v15 x0 x1 x2 x3 x4))))], [])]
theorem wv15 : NewOrc Try.prog dOk base o67 t67 (15, sv15) := by
  intro al H q hq0 rs H2 h2
  have hq : sv15 al H = some q := hq0
  clear hq0
  unfold sv15 at hq
  replace hq := dC_some hq; obtain ⟨y1, l2, rfl, hq⟩ := hq
  replace hq := dA_some hq; obtain ⟨y3, rfl, hq⟩ := hq
  replace hq := dC_some hq; obtain ⟨y4, l5, rfl, hq⟩ := hq
  replace hq := dD_some hq; obtain ⟨x0, rfl, hq⟩ := hq
  replace hq := dC_some hq; obtain ⟨y6, l7, rfl, hq⟩ := hq
  replace hq := dD_some hq; obtain ⟨x1, rfl, hq⟩ := hq
  replace hq := dE_some hq; obtain ⟨rfl, hq⟩ := hq
  replace hq := dC_some hq; obtain ⟨y8, l9, rfl, hq⟩ := hq
  replace hq := dA_some hq; obtain ⟨y10, rfl, hq⟩ := hq
  replace hq := dC_some hq; obtain ⟨y11, l12, rfl, hq⟩ := hq
  replace hq := dD_some hq; obtain ⟨x2, rfl, hq⟩ := hq
  replace hq := dC_some hq; obtain ⟨y13, l14, rfl, hq⟩ := hq
  replace hq := dD_some hq; obtain ⟨x3, rfl, hq⟩ := hq
  replace hq := dCI_some hq; obtain ⟨x4, l15, rfl, hq⟩ := hq
  replace hq := dE_some hq; obtain ⟨rfl, hq⟩ := hq
  replace hq := dE_some hq; obtain ⟨rfl, hq⟩ := hq
  replace hq := dE_some hq; obtain ⟨rfl, hq⟩ := hq
  cases hq
  obtain ⟨hc0, rfl, rfl⟩ := pickR_one h2
  exact ⟨41, (fn_eq (by kernel_rfl)).trans ((ev15 _ _ _ _ _).trans (bind_of (ok_val hc0)))⟩
noncomputable def o68 : OrcT := (15, sv15) :: o67
noncomputable def t68 : TellT := t67
noncomputable abbrev tn68 : FuncId → TAn := mkTn base o68 t68
theorem ok68 : TnOk Try.prog tn68 (mkA base) dOk := by
  have h0 : TnOk Try.prog (mkTn base o67 t67) (mkA base) dOk := ok67
  have h1 := tn_orc h0 h0 (p := (15, sv15)) wv15
  exact h1
noncomputable def v25 : Option ((List Int) × (List (List (List Int)))) := (some ([(2 : Int)], [[[(0 : Int)]], [[(0 : Int)]]]))
theorem ev25 : fnBody Try.prog (mkTn base o68 t68 25) (TM.evF Try.prog (mkTn base o68 t68) dOk 40) dOk 40 25 [] [] = (v25).bind fun r => some ([.agg [.d 3 (.int .i64) (r.1 : List Int), .d 26 (.list 22 (.list 3 (.int .i64))) (r.2 : List (List (List Int)))]], []) := by
  refine Eq.trans (b := (some ([.agg [.d 3 (.int .i64) ([(2 : Int)] : List Int), .d 26 (.list 22 (.list 3 (.int .i64))) ([[[(0 : Int)]], [[(0 : Int)]]] : List (List (List Int)))]], []))) (by kernel_rfl) ?_
  unfold v25
  rfl
noncomputable def sv25 : OrcS := fun al H => dE al <| dE H <|  some [(ok (v25), [.agg [.d 3 (.int .i64) ((val (v25)).1 : List Int), .d 26 (.list 22 (.list 3 (.int .i64))) ((val (v25)).2 : List (List (List Int)))]], [])]
theorem wv25 : NewOrc Try.prog dOk base o68 t68 (25, sv25) := by
  intro al H q hq0 rs H2 h2
  have hq : sv25 al H = some q := hq0
  clear hq0
  unfold sv25 at hq
  replace hq := dE_some hq; obtain ⟨rfl, hq⟩ := hq
  replace hq := dE_some hq; obtain ⟨rfl, hq⟩ := hq
  cases hq
  obtain ⟨hc0, rfl, rfl⟩ := pickR_one h2
  exact ⟨41, (fn_eq (by kernel_rfl)).trans ((ev25 ).trans (bind_of (ok_val hc0)))⟩
noncomputable def o69 : OrcT := (25, sv25) :: o68
noncomputable def t69 : TellT := t68
noncomputable abbrev tn69 : FuncId → TAn := mkTn base o69 t69
theorem ok69 : TnOk Try.prog tn69 (mkA base) dOk := by
  have h0 : TnOk Try.prog (mkTn base o68 t68) (mkA base) dOk := ok68
  have h1 := tn_orc h0 h0 (p := (25, sv25)) wv25
  exact h1
noncomputable def v24 (x0 : Int) (x1 : Int) (x2 : Int) (x3 : Int) (x4 : Int) : Option Bool := (cond (ok (v11 (Prod.fst (val v25)) (Prod.snd (val v25)) [[x0], [x1]] [x2])) (cond (Prod.fst (val (v11 (Prod.fst (val v25)) (Prod.snd (val v25)) [[x0], [x1]] [x2])) == x3) (some (Prod.snd (val (v11 (Prod.fst (val v25)) (Prod.snd (val v25)) [[x0], [x1]] [x2])) == x4)) (some (false))) none)
theorem ev24 (x0 : Int) (x1 : Int) (x2 : Int) (x3 : Int) (x4 : Int) : fnBody Try.prog (mkTn base o69 t69 24) (TM.evF Try.prog (mkTn base o69 t69) dOk 40) dOk 40 24 [.sc (.int .i64 (x0)), .sc (.int .i64 (x1)), .sc (.int .i64 (x2)), .sc (.int .i64 (x3)), .sc (.int .i64 (x4))] [] = (v24 x0 x1 x2 x3 x4).bind fun r => some ([.sc (.bool (r))], []) := by
  refine Eq.trans (b := (cond (ok (v11 (Prod.fst (val v25)) (Prod.snd (val v25)) [[x0], [x1]] [x2])) (cond (Prod.fst (val (v11 (Prod.fst (val v25)) (Prod.snd (val v25)) [[x0], [x1]] [x2])) == x3) (some ([.sc (.bool (Prod.snd (val (v11 (Prod.fst (val v25)) (Prod.snd (val v25)) [[x0], [x1]] [x2])) == x4))], [])) (some ([.sc (.bool (false))], []))) none)) (by kernel_rfl) ?_
  unfold v24
  cases (ok (v11 (Prod.fst (val v25)) (Prod.snd (val v25)) [[x0], [x1]] [x2])) with
  | true =>
    cases (Prod.fst (val (v11 (Prod.fst (val v25)) (Prod.snd (val v25)) [[x0], [x1]] [x2])) == x3) with
    | true =>
      rfl
    | false =>
      rfl
  | false =>
    rfl
noncomputable def sv24 : OrcS := fun al H => dC al fun y1 l2 => dS y1 fun y3 => dInt .i64 y3 fun x0 => dC l2 fun y4 l5 => dS y4 fun y6 => dInt .i64 y6 fun x1 => dC l5 fun y7 l8 => dS y7 fun y9 => dInt .i64 y9 fun x2 => dC l8 fun y10 l11 => dS y10 fun y12 => dInt .i64 y12 fun x3 => dC l11 fun y13 l14 => dS y13 fun y15 => dInt .i64 y15 fun x4 => dE l14 <| dE H <|  some [(ok (v24 x0 x1 x2 x3 x4), [.sc (.bool ((val (v24 x0 x1 x2 x3 x4))))], [])]
theorem wv24 : NewOrc Try.prog dOk base o69 t69 (24, sv24) := by
  intro al H q hq0 rs H2 h2
  have hq : sv24 al H = some q := hq0
  clear hq0
  unfold sv24 at hq
  replace hq := dC_some hq; obtain ⟨y1, l2, rfl, hq⟩ := hq
  replace hq := dS_some hq; obtain ⟨y3, rfl, hq⟩ := hq
  replace hq := dInt_some hq; obtain ⟨x0, rfl, hq⟩ := hq
  replace hq := dC_some hq; obtain ⟨y4, l5, rfl, hq⟩ := hq
  replace hq := dS_some hq; obtain ⟨y6, rfl, hq⟩ := hq
  replace hq := dInt_some hq; obtain ⟨x1, rfl, hq⟩ := hq
  replace hq := dC_some hq; obtain ⟨y7, l8, rfl, hq⟩ := hq
  replace hq := dS_some hq; obtain ⟨y9, rfl, hq⟩ := hq
  replace hq := dInt_some hq; obtain ⟨x2, rfl, hq⟩ := hq
  replace hq := dC_some hq; obtain ⟨y10, l11, rfl, hq⟩ := hq
  replace hq := dS_some hq; obtain ⟨y12, rfl, hq⟩ := hq
  replace hq := dInt_some hq; obtain ⟨x3, rfl, hq⟩ := hq
  replace hq := dC_some hq; obtain ⟨y13, l14, rfl, hq⟩ := hq
  replace hq := dS_some hq; obtain ⟨y15, rfl, hq⟩ := hq
  replace hq := dInt_some hq; obtain ⟨x4, rfl, hq⟩ := hq
  replace hq := dE_some hq; obtain ⟨rfl, hq⟩ := hq
  replace hq := dE_some hq; obtain ⟨rfl, hq⟩ := hq
  cases hq
  obtain ⟨hc0, rfl, rfl⟩ := pickR_one h2
  exact ⟨41, (fn_eq (by kernel_rfl)).trans ((ev24 _ _ _ _ _).trans (bind_of (ok_val hc0)))⟩
noncomputable def o70 : OrcT := (24, sv24) :: o69
noncomputable def t70 : TellT := t69
noncomputable abbrev tn70 : FuncId → TAn := mkTn base o70 t70
theorem ok70 : TnOk Try.prog tn70 (mkA base) dOk := by
  have h0 : TnOk Try.prog (mkTn base o69 t69) (mkA base) dOk := ok69
  have h1 := tn_orc h0 h0 (p := (24, sv24)) wv24
  exact h1
noncomputable def v9 : Option Bool := (some (true))
theorem ev9 : fnBody Try.prog (mkTn base o70 t70 9) (TM.evF Try.prog (mkTn base o70 t70) dOk 40) dOk 40 9 [] [] = (v9).bind fun r => some ([.sc (.bool (r))], []) := by
  refine Eq.trans (b := (some ([.sc (.bool (true))], []))) (by kernel_rfl) ?_
  unfold v9
  rfl
noncomputable def sv9 : OrcS := fun al H => dE al <| dE H <|  some [(ok (v9), [.sc (.bool ((val (v9))))], [])]
theorem wv9 : NewOrc Try.prog dOk base o70 t70 (9, sv9) := by
  intro al H q hq0 rs H2 h2
  have hq : sv9 al H = some q := hq0
  clear hq0
  unfold sv9 at hq
  replace hq := dE_some hq; obtain ⟨rfl, hq⟩ := hq
  replace hq := dE_some hq; obtain ⟨rfl, hq⟩ := hq
  cases hq
  obtain ⟨hc0, rfl, rfl⟩ := pickR_one h2
  exact ⟨41, (fn_eq (by kernel_rfl)).trans ((ev9 ).trans (bind_of (ok_val hc0)))⟩
noncomputable def o71 : OrcT := (9, sv9) :: o70
noncomputable def t71 : TellT := t70
noncomputable abbrev tn71 : FuncId → TAn := mkTn base o71 t71
theorem ok71 : TnOk Try.prog tn71 (mkA base) dOk := by
  have h0 : TnOk Try.prog (mkTn base o70 t70) (mkA base) dOk := ok70
  have h1 := tn_orc h0 h0 (p := (9, sv9)) wv9
  exact h1
noncomputable def L8_60_0 (x0 : (List (List Int))) (x1 : (List Int)) (x2 : Int) (x3 : Int) (x4 : Bool) (x5 : Int) (x6 : Int) (x7 : Int) (x8 : Int) (x9 : (List Int)) (x10 : (List (List (List Int)))) : Option (Bool ⊕ Unit) := (cond (x5 != x7) (some (.inl (false))) (cond (x6 != x8) (some (.inl (false))) (some (.inr ()))))
noncomputable def xL8_60_0 (x0 : (List (List Int))) (x1 : (List Int)) (x2 : Int) (x3 : Int) (x4 : Bool) (x5 : Int) (x6 : Int) (x7 : Int) (x8 : Int) (x9 : (List Int)) (x10 : (List (List (List Int)))) : (Bool ⊕ Unit) → Ex × CS := fun r => match r with | .inl a0 => (.ret, { sl := [(12, .v (.sc (.bool (a0))))], lo := [], h := [], n0 := 0, w := true }) | .inr b0 => (.normal, { sl := [(1, .v (.sc (.d 22 (.list 3 (.int .i64)) (x0)))), (2, .v (.sc (.d 3 (.int .i64) (x1)))), (3, .v (.sc (.int .u8 (x2)))), (4, .v (.sc (.int .u8 (x3)))), (6, .l 6 0), (13, .v (.sc (.bool (x4)))), (14, .v (.sc (.int .i64 (x5)))), (15, .v (.sc (.int .i64 (x6))))], lo := [(6, [.d 3 (.int .i64) (x9), .d 26 (.list 22 (.list 3 (.int .i64))) (x10)])], h := [], n0 := 0, w := false })
theorem bL8_60_0 (k : Nat) (cX : Ex → CS → Option (Ex × CS)) (x0 : (List (List Int))) (x1 : (List Int)) (x2 : Int) (x3 : Int) (x4 : Bool) (x5 : Int) (x6 : Int) (x7 : Int) (x8 : Int) (x9 : (List Int)) (x10 : (List (List (List Int)))) : pieceBody Try.prog (mkTn base o71 t71 8) (TM.evF Try.prog (mkTn base o71 t71) dOk (k + 40)) dOk (k + 40) (codeAt Try.prog (tn0 8) 8 60) 0 60 { sl := [(1, .v (.sc (.d 22 (.list 3 (.int .i64)) (x0)))), (2, .v (.sc (.d 3 (.int .i64) (x1)))), (3, .v (.sc (.int .u8 (x2)))), (4, .v (.sc (.int .u8 (x3)))), (6, .l 6 0), (13, .v (.sc (.bool (x4)))), (14, .v (.sc (.int .i64 (x5)))), (15, .v (.sc (.int .i64 (x6)))), (16, .v (.sc (.int .i64 (x7)))), (17, .v (.sc (.int .i64 (x8))))], lo := [(6, [.d 3 (.int .i64) (x9), .d 26 (.list 22 (.list 3 (.int .i64))) (x10)])], h := [], n0 := 0, w := false } cX = (cond (x5 != x7) (cX .ret { sl := [(12, .v (.sc (.bool (false))))], lo := [], h := [], n0 := 0, w := true }) (cond (x6 != x8) (cX .ret { sl := [(12, .v (.sc (.bool (false))))], lo := [], h := [], n0 := 0, w := true }) (cX .normal { sl := [(1, .v (.sc (.d 22 (.list 3 (.int .i64)) (x0)))), (2, .v (.sc (.d 3 (.int .i64) (x1)))), (3, .v (.sc (.int .u8 (x2)))), (4, .v (.sc (.int .u8 (x3)))), (6, .l 6 0), (13, .v (.sc (.bool (x4)))), (14, .v (.sc (.int .i64 (x5)))), (15, .v (.sc (.int .i64 (x6))))], lo := [(6, [.d 3 (.int .i64) (x9), .d 26 (.list 22 (.list 3 (.int .i64))) (x10)])], h := [], n0 := 0, w := false }))) := by kernel_rfl
theorem lL8_60_0 (k : Nat) (x0 : (List (List Int))) (x1 : (List Int)) (x2 : Int) (x3 : Int) (x4 : Bool) (x5 : Int) (x6 : Int) (x7 : Int) (x8 : Int) (x9 : (List Int)) (x10 : (List (List (List Int)))) (r : (Bool ⊕ Unit)) : L8_60_0 x0 x1 x2 x3 x4 x5 x6 x7 x8 x9 x10 = some r → pieceBody Try.prog (mkTn base o71 t71 8) (TM.evF Try.prog (mkTn base o71 t71) dOk (k + 40)) dOk (k + 40) (codeAt Try.prog (tn0 8) 8 60) 0 60 { sl := [(1, .v (.sc (.d 22 (.list 3 (.int .i64)) (x0)))), (2, .v (.sc (.d 3 (.int .i64) (x1)))), (3, .v (.sc (.int .u8 (x2)))), (4, .v (.sc (.int .u8 (x3)))), (6, .l 6 0), (13, .v (.sc (.bool (x4)))), (14, .v (.sc (.int .i64 (x5)))), (15, .v (.sc (.int .i64 (x6)))), (16, .v (.sc (.int .i64 (x7)))), (17, .v (.sc (.int .i64 (x8))))], lo := [(6, [.d 3 (.int .i64) (x9), .d 26 (.list 22 (.list 3 (.int .i64))) (x10)])], h := [], n0 := 0, w := false } (fun e s => some (e, s)) = some (xL8_60_0 x0 x1 x2 x3 x4 x5 x6 x7 x8 x9 x10 r) := by
  rw [bL8_60_0]
  unfold L8_60_0
  cases (x5 != x7) with
  | true =>
    intro h; cases h; rfl
  | false =>
    cases (x6 != x8) with
    | true =>
      intro h; cases h; rfl
    | false =>
      intro h; cases h; rfl
noncomputable def sL8_60_0 : TellS := fun S => dCS 0 S fun y1 y2 y3 => dSs 1 y1 fun y5 l4 => dD 22 (.list 3 (.int .i64)) y5 fun x0 => dSs 2 l4 fun y7 l6 => dD 3 (.int .i64) y7 fun x1 => dSI 3 .u8 l6 fun x2 l8 => dSI 4 .u8 l8 fun x3 l9 => dSt 6 l9 fun y11 l10 => dL 6 0 y11 <| dSs 13 l10 fun y13 l12 => dBool y13 fun x4 => dSI 14 .i64 l12 fun x5 l14 => dSI 15 .i64 l14 fun x6 l15 => dSI 16 .i64 l15 fun x7 l16 => dSI 17 .i64 l16 fun x8 l17 => dE l17 <| dLo 6 y2 fun y18 l19 => dC y18 fun y20 l21 => dD 3 (.int .i64) y20 fun x9 => dC l21 fun y22 l23 => dD 26 (.list 22 (.list 3 (.int .i64))) y22 fun x10 => dE l23 <| dE l19 <| dE y3 <|  some [(isL (L8_60_0 x0 x1 x2 x3 x4 x5 x6 x7 x8 x9 x10), .ret, { sl := [(12, .v (.sc (.bool ((getL (L8_60_0 x0 x1 x2 x3 x4 x5 x6 x7 x8 x9 x10))))))], lo := [], h := [], n0 := 0, w := true }), (ok (getR (L8_60_0 x0 x1 x2 x3 x4 x5 x6 x7 x8 x9 x10)), .normal, { sl := [(1, .v (.sc (.d 22 (.list 3 (.int .i64)) (x0)))), (2, .v (.sc (.d 3 (.int .i64) (x1)))), (3, .v (.sc (.int .u8 (x2)))), (4, .v (.sc (.int .u8 (x3)))), (6, .l 6 0), (13, .v (.sc (.bool (x4)))), (14, .v (.sc (.int .i64 (x5)))), (15, .v (.sc (.int .i64 (x6))))], lo := [(6, [.d 3 (.int .i64) (x9), .d 26 (.list 22 (.list 3 (.int .i64))) (x10)])], h := [], n0 := 0, w := false })]
theorem wL8_60_0 : NewTell Try.prog dOk base o71 t71 ((8, 60), sL8_60_0) := by
  refine ⟨(codeAt Try.prog (tn0 8) 8 60), 0, by kernel_rfl, ?_⟩
  intro S alts e S' h10 h2
  have h1 : sL8_60_0 S = some alts := h10
  clear h10
  unfold sL8_60_0 at h1
  replace h1 := dCS_some h1; obtain ⟨y1, y2, y3, rfl, h1⟩ := h1
  replace h1 := dSs_some h1; obtain ⟨y5, l4, rfl, h1⟩ := h1
  replace h1 := dD_some h1; obtain ⟨x0, rfl, h1⟩ := h1
  replace h1 := dSs_some h1; obtain ⟨y7, l6, rfl, h1⟩ := h1
  replace h1 := dD_some h1; obtain ⟨x1, rfl, h1⟩ := h1
  replace h1 := dSI_some h1; obtain ⟨x2, l8, rfl, h1⟩ := h1
  replace h1 := dSI_some h1; obtain ⟨x3, l9, rfl, h1⟩ := h1
  replace h1 := dSt_some h1; obtain ⟨y11, l10, rfl, h1⟩ := h1
  replace h1 := dL_some h1; obtain ⟨rfl, h1⟩ := h1
  replace h1 := dSs_some h1; obtain ⟨y13, l12, rfl, h1⟩ := h1
  replace h1 := dBool_some h1; obtain ⟨x4, rfl, h1⟩ := h1
  replace h1 := dSI_some h1; obtain ⟨x5, l14, rfl, h1⟩ := h1
  replace h1 := dSI_some h1; obtain ⟨x6, l15, rfl, h1⟩ := h1
  replace h1 := dSI_some h1; obtain ⟨x7, l16, rfl, h1⟩ := h1
  replace h1 := dSI_some h1; obtain ⟨x8, l17, rfl, h1⟩ := h1
  replace h1 := dE_some h1; obtain ⟨rfl, h1⟩ := h1
  replace h1 := dLo_some h1; obtain ⟨y18, l19, rfl, h1⟩ := h1
  replace h1 := dC_some h1; obtain ⟨y20, l21, rfl, h1⟩ := h1
  replace h1 := dD_some h1; obtain ⟨x9, rfl, h1⟩ := h1
  replace h1 := dC_some h1; obtain ⟨y22, l23, rfl, h1⟩ := h1
  replace h1 := dD_some h1; obtain ⟨x10, rfl, h1⟩ := h1
  replace h1 := dE_some h1; obtain ⟨rfl, h1⟩ := h1
  replace h1 := dE_some h1; obtain ⟨rfl, h1⟩ := h1
  replace h1 := dE_some h1; obtain ⟨rfl, h1⟩ := h1
  cases h1
  rcases pick_cons h2 with ⟨hc0, rfl, rfl⟩ | h2
  · exact ⟨0 + 40, (evPiece_code rfl).trans (lL8_60_0 0 _ _ _ _ _ _ _ _ _ _ _ _ (isL_val hc0))⟩
  obtain ⟨hc1, rfl, rfl⟩ := pick_one h2
  exact ⟨0 + 40, (evPiece_code rfl).trans (lL8_60_0 0 _ _ _ _ _ _ _ _ _ _ _ _ (getR_val (ok_val hc1)))⟩
noncomputable def o72 : OrcT := o71
noncomputable def t72 : TellT := ((8, 60), sL8_60_0) :: t71
noncomputable abbrev tn72 : FuncId → TAn := mkTn base o72 t72
theorem ok72 : TnOk Try.prog tn72 (mkA base) dOk := by
  have h0 : TnOk Try.prog (mkTn base o71 t71) (mkA base) dOk := ok71
  have h1 := tn_tell h0 h0 (p := ((8, 60), sL8_60_0)) wL8_60_0
  exact h1
noncomputable def L8_132_0 (x0 : (List Int)) (x1 : Bool) (x2 : Int) (x3 : Int) (x4 : Int) (x5 : Int) (x6 : Int) : Option Bool := (cond (x1) (cond (x6 == (3 : Int)) (cond (decide ((0 : Int) ≤ x3)) (cond (decide (x3 < (↑(List.length x0) : Int))) (cond (decide (IntKind.wrap IntKind.i64 (x2 + IntKind.wrap IntKind.i64 (List.getD x0 (Int.toNat x3) (0 : Int) * x4)) > (0 : Int))) (some (true)) (cond (x6 == (0 : Int)) (cond (decide (x5 ≥ x2)) (some (decide (x5 ≤ IntKind.wrap IntKind.i64 (x2 + IntKind.wrap IntKind.i64 (List.getD x0 (Int.toNat x3) (0 : Int) * x4))))) (some (false))) (some (false)))) none) none) (cond (x6 == (0 : Int)) (cond (decide (x5 ≥ x2)) (cond (decide ((0 : Int) ≤ x3)) (cond (decide (x3 < (↑(List.length x0) : Int))) (some (decide (x5 ≤ IntKind.wrap IntKind.i64 (x2 + IntKind.wrap IntKind.i64 (List.getD x0 (Int.toNat x3) (0 : Int) * x4))))) none) none) (some (false))) (some (false)))) (some (false)))
noncomputable def xL8_132_0 (x0 : (List Int)) (x1 : Bool) (x2 : Int) (x3 : Int) (x4 : Int) (x5 : Int) (x6 : Int) : Bool → Ex × CS := fun r => (.ret, { sl := [(12, .v (.sc (.bool (r))))], lo := [], h := [], n0 := 0, w := true })
theorem bL8_132_0 (k : Nat) (cX : Ex → CS → Option (Ex × CS)) (x0 : (List Int)) (x1 : Bool) (x2 : Int) (x3 : Int) (x4 : Int) (x5 : Int) (x6 : Int) : pieceBody Try.prog (mkTn base o72 t72 8) (TM.evF Try.prog (mkTn base o72 t72) dOk (k + 40)) dOk (k + 40) (codeAt Try.prog (tn0 8) 8 132) 0 132 { sl := [(2, .v (.sc (.d 3 (.int .i64) (x0)))), (13, .v (.sc (.bool (x1)))), (14, .v (.sc (.int .i64 (x2)))), (18, .v (.sc (.int .i64 (x3)))), (20, .v (.sc (.int .i64 (x4)))), (21, .v (.sc (.int .i64 (x5)))), (22, .v (.sc (.int .i64 (x6))))], lo := [], h := [], n0 := 0, w := false } cX = (cond (x1) (cond (x6 == (3 : Int)) (cond (decide ((0 : Int) ≤ x3)) (cond (decide (x3 < (↑(List.length x0) : Int))) (cond (decide (IntKind.wrap IntKind.i64 (x2 + IntKind.wrap IntKind.i64 (List.getD x0 (Int.toNat x3) (0 : Int) * x4)) > (0 : Int))) (cX .ret { sl := [(12, .v (.sc (.bool (true))))], lo := [], h := [], n0 := 0, w := true }) (cond (x6 == (0 : Int)) (cond (decide (x5 ≥ x2)) (cond (decide ((0 : Int) ≤ x3)) (cond (decide (x3 < (↑(List.length x0) : Int))) (cX .ret { sl := [(12, .v (.sc (.bool (decide (x5 ≤ IntKind.wrap IntKind.i64 (x2 + IntKind.wrap IntKind.i64 (List.getD x0 (Int.toNat x3) (0 : Int) * x4)))))))], lo := [], h := [], n0 := 0, w := true }) none) none) (cX .ret { sl := [(12, .v (.sc (.bool (false))))], lo := [], h := [], n0 := 0, w := true })) (cX .ret { sl := [(12, .v (.sc (.bool (false))))], lo := [], h := [], n0 := 0, w := true }))) none) none) (cond (x6 == (0 : Int)) (cond (decide (x5 ≥ x2)) (cond (decide ((0 : Int) ≤ x3)) (cond (decide (x3 < (↑(List.length x0) : Int))) (cX .ret { sl := [(12, .v (.sc (.bool (decide (x5 ≤ IntKind.wrap IntKind.i64 (x2 + IntKind.wrap IntKind.i64 (List.getD x0 (Int.toNat x3) (0 : Int) * x4)))))))], lo := [], h := [], n0 := 0, w := true }) none) none) (cX .ret { sl := [(12, .v (.sc (.bool (false))))], lo := [], h := [], n0 := 0, w := true })) (cX .ret { sl := [(12, .v (.sc (.bool (false))))], lo := [], h := [], n0 := 0, w := true }))) (cX .ret { sl := [(12, .v (.sc (.bool (false))))], lo := [], h := [], n0 := 0, w := true })) := by kernel_rfl
theorem lL8_132_0 (k : Nat) (x0 : (List Int)) (x1 : Bool) (x2 : Int) (x3 : Int) (x4 : Int) (x5 : Int) (x6 : Int) (r : Bool) : L8_132_0 x0 x1 x2 x3 x4 x5 x6 = some r → pieceBody Try.prog (mkTn base o72 t72 8) (TM.evF Try.prog (mkTn base o72 t72) dOk (k + 40)) dOk (k + 40) (codeAt Try.prog (tn0 8) 8 132) 0 132 { sl := [(2, .v (.sc (.d 3 (.int .i64) (x0)))), (13, .v (.sc (.bool (x1)))), (14, .v (.sc (.int .i64 (x2)))), (18, .v (.sc (.int .i64 (x3)))), (20, .v (.sc (.int .i64 (x4)))), (21, .v (.sc (.int .i64 (x5)))), (22, .v (.sc (.int .i64 (x6))))], lo := [], h := [], n0 := 0, w := false } (fun e s => some (e, s)) = some (xL8_132_0 x0 x1 x2 x3 x4 x5 x6 r) := by
  rw [bL8_132_0]
  unfold L8_132_0
  cases x1 with
  | true =>
    cases (x6 == (3 : Int)) with
    | true =>
      cases (decide ((0 : Int) ≤ x3)) with
      | true =>
        cases (decide (x3 < (↑(List.length x0) : Int))) with
        | true =>
          cases (decide (IntKind.wrap IntKind.i64 (x2 + IntKind.wrap IntKind.i64 (List.getD x0 (Int.toNat x3) (0 : Int) * x4)) > (0 : Int))) with
          | true =>
            intro h; cases h; rfl
          | false =>
            cases (x6 == (0 : Int)) with
            | true =>
              cases (decide (x5 ≥ x2)) with
              | true =>
                intro h; cases h; rfl
              | false =>
                intro h; cases h; rfl
            | false =>
              intro h; cases h; rfl
        | false =>
          intro h; cases h
      | false =>
        intro h; cases h
    | false =>
      cases (x6 == (0 : Int)) with
      | true =>
        cases (decide (x5 ≥ x2)) with
        | true =>
          cases (decide ((0 : Int) ≤ x3)) with
          | true =>
            cases (decide (x3 < (↑(List.length x0) : Int))) with
            | true =>
              intro h; cases h; rfl
            | false =>
              intro h; cases h
          | false =>
            intro h; cases h
        | false =>
          intro h; cases h; rfl
      | false =>
        intro h; cases h; rfl
  | false =>
    intro h; cases h; rfl
noncomputable def sL8_132_0 : TellS := fun S => dCS 0 S fun y1 y2 y3 => dSs 2 y1 fun y5 l4 => dD 3 (.int .i64) y5 fun x0 => dSs 13 l4 fun y7 l6 => dBool y7 fun x1 => dSI 14 .i64 l6 fun x2 l8 => dSI 18 .i64 l8 fun x3 l9 => dSI 20 .i64 l9 fun x4 l10 => dSI 21 .i64 l10 fun x5 l11 => dSI 22 .i64 l11 fun x6 l12 => dE l12 <| dE y2 <| dE y3 <|  some [(ok (L8_132_0 x0 x1 x2 x3 x4 x5 x6), .ret, { sl := [(12, .v (.sc (.bool ((val (L8_132_0 x0 x1 x2 x3 x4 x5 x6))))))], lo := [], h := [], n0 := 0, w := true })]
theorem wL8_132_0 : NewTell Try.prog dOk base o72 t72 ((8, 132), sL8_132_0) := by
  refine ⟨(codeAt Try.prog (tn0 8) 8 132), 0, by kernel_rfl, ?_⟩
  intro S alts e S' h10 h2
  have h1 : sL8_132_0 S = some alts := h10
  clear h10
  unfold sL8_132_0 at h1
  replace h1 := dCS_some h1; obtain ⟨y1, y2, y3, rfl, h1⟩ := h1
  replace h1 := dSs_some h1; obtain ⟨y5, l4, rfl, h1⟩ := h1
  replace h1 := dD_some h1; obtain ⟨x0, rfl, h1⟩ := h1
  replace h1 := dSs_some h1; obtain ⟨y7, l6, rfl, h1⟩ := h1
  replace h1 := dBool_some h1; obtain ⟨x1, rfl, h1⟩ := h1
  replace h1 := dSI_some h1; obtain ⟨x2, l8, rfl, h1⟩ := h1
  replace h1 := dSI_some h1; obtain ⟨x3, l9, rfl, h1⟩ := h1
  replace h1 := dSI_some h1; obtain ⟨x4, l10, rfl, h1⟩ := h1
  replace h1 := dSI_some h1; obtain ⟨x5, l11, rfl, h1⟩ := h1
  replace h1 := dSI_some h1; obtain ⟨x6, l12, rfl, h1⟩ := h1
  replace h1 := dE_some h1; obtain ⟨rfl, h1⟩ := h1
  replace h1 := dE_some h1; obtain ⟨rfl, h1⟩ := h1
  replace h1 := dE_some h1; obtain ⟨rfl, h1⟩ := h1
  cases h1
  obtain ⟨hc0, rfl, rfl⟩ := pick_one h2
  exact ⟨0 + 40, (evPiece_code rfl).trans (lL8_132_0 0 _ _ _ _ _ _ _ _ (ok_val hc0))⟩
noncomputable def o73 : OrcT := o72
noncomputable def t73 : TellT := ((8, 132), sL8_132_0) :: t72
noncomputable abbrev tn73 : FuncId → TAn := mkTn base o73 t73
theorem ok73 : TnOk Try.prog tn73 (mkA base) dOk := by
  have h0 : TnOk Try.prog (mkTn base o72 t72) (mkA base) dOk := ok72
  have h1 := tn_tell h0 h0 (p := ((8, 132), sL8_132_0)) wL8_132_0
  exact h1
noncomputable def L8_76_0 (x0 : (List (List Int))) (x1 : (List Int)) (x2 : Int) (x3 : Int) (x4 : Bool) (x5 : Int) (x6 : Int) (x7 : (List Int)) (x8 : (List (List (List Int)))) : Option Bool := (cond (decide ((↑(List.length x7) : Int) ≠ (0 : Int))) (cond (decide (List.length x7 ≤ nat_lit 2147483648)) (cond (decide ((0 : Int) ≤ Int.tmod (IntKind.wrap IntKind.i64 x2) (↑(List.length x7) : Int))) (cond (decide (Int.tmod (IntKind.wrap IntKind.i64 x2) (↑(List.length x7) : Int) < (↑(List.length x7) : Int))) (cond (decide (Int.toNat (Int.tmod (IntKind.wrap IntKind.i64 x2) (↑(List.length x7) : Int)) < List.length x7)) (cond (decide (Int.tmod (IntKind.wrap IntKind.i64 x2) (↑(List.length x7) : Int) < (↑(List.length (List.set x7 (Int.toNat (Int.tmod (IntKind.wrap IntKind.i64 x2) (↑(List.length x7) : Int))) (min (1000 : Int) (IntKind.wrap IntKind.i64 (List.getD x7 (Int.toNat (Int.tmod (IntKind.wrap IntKind.i64 x2) (↑(List.length x7) : Int))) (0 : Int) + IntKind.wrap IntKind.i64 x3))))) : Int))) (cond (decide (Int.toNat (Int.tmod (IntKind.wrap IntKind.i64 x2) (↑(List.length x7) : Int)) < List.length (List.set x7 (Int.toNat (Int.tmod (IntKind.wrap IntKind.i64 x2) (↑(List.length x7) : Int))) (min (1000 : Int) (IntKind.wrap IntKind.i64 (List.getD x7 (Int.toNat (Int.tmod (IntKind.wrap IntKind.i64 x2) (↑(List.length x7) : Int))) (0 : Int) + IntKind.wrap IntKind.i64 x3)))))) (cond (ok (v11 (List.set x7 (Int.toNat (Int.tmod (IntKind.wrap IntKind.i64 x2) (↑(List.length x7) : Int))) (min (1000 : Int) (IntKind.wrap IntKind.i64 (List.getD x7 (Int.toNat (Int.tmod (IntKind.wrap IntKind.i64 x2) (↑(List.length x7) : Int))) (0 : Int) + IntKind.wrap IntKind.i64 x3)))) x8 x0 x1)) (cond (x6 != (0 : Int)) (cond (x4) (cond (x6 != (3 : Int)) (some (true)) (some (Prod.snd (val (v11 (List.set x7 (Int.toNat (Int.tmod (IntKind.wrap IntKind.i64 x2) (↑(List.length x7) : Int))) (min (1000 : Int) (IntKind.wrap IntKind.i64 (List.getD x7 (Int.toNat (Int.tmod (IntKind.wrap IntKind.i64 x2) (↑(List.length x7) : Int))) (0 : Int) + IntKind.wrap IntKind.i64 x3)))) x8 x0 x1)) == (3 : Int)))) (some (false))) (cond (ok (L8_132_0 x1 x4 x5 (Int.tmod (IntKind.wrap IntKind.i64 x2) (↑(List.length x7) : Int)) (IntKind.wrap IntKind.i64 (List.getD (List.set x7 (Int.toNat (Int.tmod (IntKind.wrap IntKind.i64 x2) (↑(List.length x7) : Int))) (min (1000 : Int) (IntKind.wrap IntKind.i64 (List.getD x7 (Int.toNat (Int.tmod (IntKind.wrap IntKind.i64 x2) (↑(List.length x7) : Int))) (0 : Int) + IntKind.wrap IntKind.i64 x3)))) (Int.toNat (Int.tmod (IntKind.wrap IntKind.i64 x2) (↑(List.length x7) : Int))) (0 : Int) - List.getD x7 (Int.toNat (Int.tmod (IntKind.wrap IntKind.i64 x2) (↑(List.length x7) : Int))) (0 : Int))) (Prod.fst (val (v11 (List.set x7 (Int.toNat (Int.tmod (IntKind.wrap IntKind.i64 x2) (↑(List.length x7) : Int))) (min (1000 : Int) (IntKind.wrap IntKind.i64 (List.getD x7 (Int.toNat (Int.tmod (IntKind.wrap IntKind.i64 x2) (↑(List.length x7) : Int))) (0 : Int) + IntKind.wrap IntKind.i64 x3)))) x8 x0 x1))) (Prod.snd (val (v11 (List.set x7 (Int.toNat (Int.tmod (IntKind.wrap IntKind.i64 x2) (↑(List.length x7) : Int))) (min (1000 : Int) (IntKind.wrap IntKind.i64 (List.getD x7 (Int.toNat (Int.tmod (IntKind.wrap IntKind.i64 x2) (↑(List.length x7) : Int))) (0 : Int) + IntKind.wrap IntKind.i64 x3)))) x8 x0 x1))))) (some (val (L8_132_0 x1 x4 x5 (Int.tmod (IntKind.wrap IntKind.i64 x2) (↑(List.length x7) : Int)) (IntKind.wrap IntKind.i64 (List.getD (List.set x7 (Int.toNat (Int.tmod (IntKind.wrap IntKind.i64 x2) (↑(List.length x7) : Int))) (min (1000 : Int) (IntKind.wrap IntKind.i64 (List.getD x7 (Int.toNat (Int.tmod (IntKind.wrap IntKind.i64 x2) (↑(List.length x7) : Int))) (0 : Int) + IntKind.wrap IntKind.i64 x3)))) (Int.toNat (Int.tmod (IntKind.wrap IntKind.i64 x2) (↑(List.length x7) : Int))) (0 : Int) - List.getD x7 (Int.toNat (Int.tmod (IntKind.wrap IntKind.i64 x2) (↑(List.length x7) : Int))) (0 : Int))) (Prod.fst (val (v11 (List.set x7 (Int.toNat (Int.tmod (IntKind.wrap IntKind.i64 x2) (↑(List.length x7) : Int))) (min (1000 : Int) (IntKind.wrap IntKind.i64 (List.getD x7 (Int.toNat (Int.tmod (IntKind.wrap IntKind.i64 x2) (↑(List.length x7) : Int))) (0 : Int) + IntKind.wrap IntKind.i64 x3)))) x8 x0 x1))) (Prod.snd (val (v11 (List.set x7 (Int.toNat (Int.tmod (IntKind.wrap IntKind.i64 x2) (↑(List.length x7) : Int))) (min (1000 : Int) (IntKind.wrap IntKind.i64 (List.getD x7 (Int.toNat (Int.tmod (IntKind.wrap IntKind.i64 x2) (↑(List.length x7) : Int))) (0 : Int) + IntKind.wrap IntKind.i64 x3)))) x8 x0 x1)))))) none)) none) none) none) none) none) none) none) none)
noncomputable def xL8_76_0 (x0 : (List (List Int))) (x1 : (List Int)) (x2 : Int) (x3 : Int) (x4 : Bool) (x5 : Int) (x6 : Int) (x7 : (List Int)) (x8 : (List (List (List Int)))) : Bool → Ex × CS := fun r => (.ret, { sl := [(12, .v (.sc (.bool (r))))], lo := [], h := [], n0 := 0, w := true })
theorem bL8_76_0 (k : Nat) (cX : Ex → CS → Option (Ex × CS)) (x0 : (List (List Int))) (x1 : (List Int)) (x2 : Int) (x3 : Int) (x4 : Bool) (x5 : Int) (x6 : Int) (x7 : (List Int)) (x8 : (List (List (List Int)))) : pieceBody Try.prog (mkTn base o73 t73 8) (TM.evF Try.prog (mkTn base o73 t73) dOk (k + 40)) dOk (k + 40) (codeAt Try.prog (tn0 8) 8 76) 0 76 { sl := [(1, .v (.sc (.d 22 (.list 3 (.int .i64)) (x0)))), (2, .v (.sc (.d 3 (.int .i64) (x1)))), (3, .v (.sc (.int .u8 (x2)))), (4, .v (.sc (.int .u8 (x3)))), (6, .l 6 0), (13, .v (.sc (.bool (x4)))), (14, .v (.sc (.int .i64 (x5)))), (15, .v (.sc (.int .i64 (x6))))], lo := [(6, [.d 3 (.int .i64) (x7), .d 26 (.list 22 (.list 3 (.int .i64))) (x8)])], h := [], n0 := 0, w := false } cX = (cond (decide ((↑(List.length x7) : Int) ≠ (0 : Int))) (cond (decide (List.length x7 ≤ nat_lit 2147483648)) (cond (decide ((0 : Int) ≤ Int.tmod (IntKind.wrap IntKind.i64 x2) (↑(List.length x7) : Int))) (cond (decide (Int.tmod (IntKind.wrap IntKind.i64 x2) (↑(List.length x7) : Int) < (↑(List.length x7) : Int))) (cond (decide (Int.toNat (Int.tmod (IntKind.wrap IntKind.i64 x2) (↑(List.length x7) : Int)) < List.length x7)) (cond (decide ((0 : Int) ≤ Int.tmod (IntKind.wrap IntKind.i64 x2) (↑(List.length x7) : Int))) (cond (decide (Int.tmod (IntKind.wrap IntKind.i64 x2) (↑(List.length x7) : Int) < (↑(List.length x7) : Int))) (cond (decide (Int.toNat (Int.tmod (IntKind.wrap IntKind.i64 x2) (↑(List.length x7) : Int)) < List.length x7)) (cond (decide ((0 : Int) ≤ Int.tmod (IntKind.wrap IntKind.i64 x2) (↑(List.length x7) : Int))) (cond (decide (Int.tmod (IntKind.wrap IntKind.i64 x2) (↑(List.length x7) : Int) < (↑(List.length (List.set x7 (Int.toNat (Int.tmod (IntKind.wrap IntKind.i64 x2) (↑(List.length x7) : Int))) (min (1000 : Int) (IntKind.wrap IntKind.i64 (List.getD x7 (Int.toNat (Int.tmod (IntKind.wrap IntKind.i64 x2) (↑(List.length x7) : Int))) (0 : Int) + IntKind.wrap IntKind.i64 x3))))) : Int))) (cond (decide (Int.toNat (Int.tmod (IntKind.wrap IntKind.i64 x2) (↑(List.length x7) : Int)) < List.length (List.set x7 (Int.toNat (Int.tmod (IntKind.wrap IntKind.i64 x2) (↑(List.length x7) : Int))) (min (1000 : Int) (IntKind.wrap IntKind.i64 (List.getD x7 (Int.toNat (Int.tmod (IntKind.wrap IntKind.i64 x2) (↑(List.length x7) : Int))) (0 : Int) + IntKind.wrap IntKind.i64 x3)))))) (cond (decide ((0 : Int) ≤ Int.tmod (IntKind.wrap IntKind.i64 x2) (↑(List.length x7) : Int))) (cond (decide (Int.tmod (IntKind.wrap IntKind.i64 x2) (↑(List.length x7) : Int) < (↑(List.length x7) : Int))) (cond (ok (v11 (List.set x7 (Int.toNat (Int.tmod (IntKind.wrap IntKind.i64 x2) (↑(List.length x7) : Int))) (min (1000 : Int) (IntKind.wrap IntKind.i64 (List.getD x7 (Int.toNat (Int.tmod (IntKind.wrap IntKind.i64 x2) (↑(List.length x7) : Int))) (0 : Int) + IntKind.wrap IntKind.i64 x3)))) x8 x0 x1)) (cond (x6 != (0 : Int)) (cond (x4) (cond (x6 != (3 : Int)) (cX .ret { sl := [(12, .v (.sc (.bool (true))))], lo := [], h := [], n0 := 0, w := true }) (cX .ret { sl := [(12, .v (.sc (.bool (Prod.snd (val (v11 (List.set x7 (Int.toNat (Int.tmod (IntKind.wrap IntKind.i64 x2) (↑(List.length x7) : Int))) (min (1000 : Int) (IntKind.wrap IntKind.i64 (List.getD x7 (Int.toNat (Int.tmod (IntKind.wrap IntKind.i64 x2) (↑(List.length x7) : Int))) (0 : Int) + IntKind.wrap IntKind.i64 x3)))) x8 x0 x1)) == (3 : Int)))))], lo := [], h := [], n0 := 0, w := true })) (cX .ret { sl := [(12, .v (.sc (.bool (false))))], lo := [], h := [], n0 := 0, w := true })) (cond (ok (L8_132_0 x1 x4 x5 (Int.tmod (IntKind.wrap IntKind.i64 x2) (↑(List.length x7) : Int)) (IntKind.wrap IntKind.i64 (List.getD (List.set x7 (Int.toNat (Int.tmod (IntKind.wrap IntKind.i64 x2) (↑(List.length x7) : Int))) (min (1000 : Int) (IntKind.wrap IntKind.i64 (List.getD x7 (Int.toNat (Int.tmod (IntKind.wrap IntKind.i64 x2) (↑(List.length x7) : Int))) (0 : Int) + IntKind.wrap IntKind.i64 x3)))) (Int.toNat (Int.tmod (IntKind.wrap IntKind.i64 x2) (↑(List.length x7) : Int))) (0 : Int) - List.getD x7 (Int.toNat (Int.tmod (IntKind.wrap IntKind.i64 x2) (↑(List.length x7) : Int))) (0 : Int))) (Prod.fst (val (v11 (List.set x7 (Int.toNat (Int.tmod (IntKind.wrap IntKind.i64 x2) (↑(List.length x7) : Int))) (min (1000 : Int) (IntKind.wrap IntKind.i64 (List.getD x7 (Int.toNat (Int.tmod (IntKind.wrap IntKind.i64 x2) (↑(List.length x7) : Int))) (0 : Int) + IntKind.wrap IntKind.i64 x3)))) x8 x0 x1))) (Prod.snd (val (v11 (List.set x7 (Int.toNat (Int.tmod (IntKind.wrap IntKind.i64 x2) (↑(List.length x7) : Int))) (min (1000 : Int) (IntKind.wrap IntKind.i64 (List.getD x7 (Int.toNat (Int.tmod (IntKind.wrap IntKind.i64 x2) (↑(List.length x7) : Int))) (0 : Int) + IntKind.wrap IntKind.i64 x3)))) x8 x0 x1))))) (cX .ret { sl := [(12, .v (.sc (.bool (val (L8_132_0 x1 x4 x5 (Int.tmod (IntKind.wrap IntKind.i64 x2) (↑(List.length x7) : Int)) (IntKind.wrap IntKind.i64 (List.getD (List.set x7 (Int.toNat (Int.tmod (IntKind.wrap IntKind.i64 x2) (↑(List.length x7) : Int))) (min (1000 : Int) (IntKind.wrap IntKind.i64 (List.getD x7 (Int.toNat (Int.tmod (IntKind.wrap IntKind.i64 x2) (↑(List.length x7) : Int))) (0 : Int) + IntKind.wrap IntKind.i64 x3)))) (Int.toNat (Int.tmod (IntKind.wrap IntKind.i64 x2) (↑(List.length x7) : Int))) (0 : Int) - List.getD x7 (Int.toNat (Int.tmod (IntKind.wrap IntKind.i64 x2) (↑(List.length x7) : Int))) (0 : Int))) (Prod.fst (val (v11 (List.set x7 (Int.toNat (Int.tmod (IntKind.wrap IntKind.i64 x2) (↑(List.length x7) : Int))) (min (1000 : Int) (IntKind.wrap IntKind.i64 (List.getD x7 (Int.toNat (Int.tmod (IntKind.wrap IntKind.i64 x2) (↑(List.length x7) : Int))) (0 : Int) + IntKind.wrap IntKind.i64 x3)))) x8 x0 x1))) (Prod.snd (val (v11 (List.set x7 (Int.toNat (Int.tmod (IntKind.wrap IntKind.i64 x2) (↑(List.length x7) : Int))) (min (1000 : Int) (IntKind.wrap IntKind.i64 (List.getD x7 (Int.toNat (Int.tmod (IntKind.wrap IntKind.i64 x2) (↑(List.length x7) : Int))) (0 : Int) + IntKind.wrap IntKind.i64 x3)))) x8 x0 x1))))))))], lo := [], h := [], n0 := 0, w := true }) none)) none) none) none) none) none) none) none) none) none) none) none) none) none) none) := by kernel_rfl
theorem lL8_76_0 (k : Nat) (x0 : (List (List Int))) (x1 : (List Int)) (x2 : Int) (x3 : Int) (x4 : Bool) (x5 : Int) (x6 : Int) (x7 : (List Int)) (x8 : (List (List (List Int)))) (r : Bool) : L8_76_0 x0 x1 x2 x3 x4 x5 x6 x7 x8 = some r → pieceBody Try.prog (mkTn base o73 t73 8) (TM.evF Try.prog (mkTn base o73 t73) dOk (k + 40)) dOk (k + 40) (codeAt Try.prog (tn0 8) 8 76) 0 76 { sl := [(1, .v (.sc (.d 22 (.list 3 (.int .i64)) (x0)))), (2, .v (.sc (.d 3 (.int .i64) (x1)))), (3, .v (.sc (.int .u8 (x2)))), (4, .v (.sc (.int .u8 (x3)))), (6, .l 6 0), (13, .v (.sc (.bool (x4)))), (14, .v (.sc (.int .i64 (x5)))), (15, .v (.sc (.int .i64 (x6))))], lo := [(6, [.d 3 (.int .i64) (x7), .d 26 (.list 22 (.list 3 (.int .i64))) (x8)])], h := [], n0 := 0, w := false } (fun e s => some (e, s)) = some (xL8_76_0 x0 x1 x2 x3 x4 x5 x6 x7 x8 r) := by
  rw [bL8_76_0]
  unfold L8_76_0
  cases (decide ((↑(List.length x7) : Int) ≠ (0 : Int))) with
  | true =>
    cases (decide (List.length x7 ≤ nat_lit 2147483648)) with
    | true =>
      cases (decide ((0 : Int) ≤ Int.tmod (IntKind.wrap IntKind.i64 x2) (↑(List.length x7) : Int))) with
      | true =>
        cases (decide (Int.tmod (IntKind.wrap IntKind.i64 x2) (↑(List.length x7) : Int) < (↑(List.length x7) : Int))) with
        | true =>
          cases (decide (Int.toNat (Int.tmod (IntKind.wrap IntKind.i64 x2) (↑(List.length x7) : Int)) < List.length x7)) with
          | true =>
            cases (decide (Int.tmod (IntKind.wrap IntKind.i64 x2) (↑(List.length x7) : Int) < (↑(List.length (List.set x7 (Int.toNat (Int.tmod (IntKind.wrap IntKind.i64 x2) (↑(List.length x7) : Int))) (min (1000 : Int) (IntKind.wrap IntKind.i64 (List.getD x7 (Int.toNat (Int.tmod (IntKind.wrap IntKind.i64 x2) (↑(List.length x7) : Int))) (0 : Int) + IntKind.wrap IntKind.i64 x3))))) : Int))) with
            | true =>
              cases (decide (Int.toNat (Int.tmod (IntKind.wrap IntKind.i64 x2) (↑(List.length x7) : Int)) < List.length (List.set x7 (Int.toNat (Int.tmod (IntKind.wrap IntKind.i64 x2) (↑(List.length x7) : Int))) (min (1000 : Int) (IntKind.wrap IntKind.i64 (List.getD x7 (Int.toNat (Int.tmod (IntKind.wrap IntKind.i64 x2) (↑(List.length x7) : Int))) (0 : Int) + IntKind.wrap IntKind.i64 x3)))))) with
              | true =>
                cases (ok (v11 (List.set x7 (Int.toNat (Int.tmod (IntKind.wrap IntKind.i64 x2) (↑(List.length x7) : Int))) (min (1000 : Int) (IntKind.wrap IntKind.i64 (List.getD x7 (Int.toNat (Int.tmod (IntKind.wrap IntKind.i64 x2) (↑(List.length x7) : Int))) (0 : Int) + IntKind.wrap IntKind.i64 x3)))) x8 x0 x1)) with
                | true =>
                  cases (x6 != (0 : Int)) with
                  | true =>
                    cases x4 with
                    | true =>
                      cases (x6 != (3 : Int)) with
                      | true =>
                        intro h; cases h; rfl
                      | false =>
                        intro h; cases h; rfl
                    | false =>
                      intro h; cases h; rfl
                  | false =>
                    cases (ok (L8_132_0 x1 x4 x5 (Int.tmod (IntKind.wrap IntKind.i64 x2) (↑(List.length x7) : Int)) (IntKind.wrap IntKind.i64 (List.getD (List.set x7 (Int.toNat (Int.tmod (IntKind.wrap IntKind.i64 x2) (↑(List.length x7) : Int))) (min (1000 : Int) (IntKind.wrap IntKind.i64 (List.getD x7 (Int.toNat (Int.tmod (IntKind.wrap IntKind.i64 x2) (↑(List.length x7) : Int))) (0 : Int) + IntKind.wrap IntKind.i64 x3)))) (Int.toNat (Int.tmod (IntKind.wrap IntKind.i64 x2) (↑(List.length x7) : Int))) (0 : Int) - List.getD x7 (Int.toNat (Int.tmod (IntKind.wrap IntKind.i64 x2) (↑(List.length x7) : Int))) (0 : Int))) (Prod.fst (val (v11 (List.set x7 (Int.toNat (Int.tmod (IntKind.wrap IntKind.i64 x2) (↑(List.length x7) : Int))) (min (1000 : Int) (IntKind.wrap IntKind.i64 (List.getD x7 (Int.toNat (Int.tmod (IntKind.wrap IntKind.i64 x2) (↑(List.length x7) : Int))) (0 : Int) + IntKind.wrap IntKind.i64 x3)))) x8 x0 x1))) (Prod.snd (val (v11 (List.set x7 (Int.toNat (Int.tmod (IntKind.wrap IntKind.i64 x2) (↑(List.length x7) : Int))) (min (1000 : Int) (IntKind.wrap IntKind.i64 (List.getD x7 (Int.toNat (Int.tmod (IntKind.wrap IntKind.i64 x2) (↑(List.length x7) : Int))) (0 : Int) + IntKind.wrap IntKind.i64 x3)))) x8 x0 x1))))) with
                    | true =>
                      intro h; cases h; rfl
                    | false =>
                      intro h; cases h
                | false =>
                  intro h; cases h
              | false =>
                intro h; cases h
            | false =>
              intro h; cases h
          | false =>
            intro h; cases h
        | false =>
          intro h; cases h
      | false =>
        intro h; cases h
    | false =>
      intro h; cases h
  | false =>
    intro h; cases h
noncomputable def sL8_76_0 : TellS := fun S => dCS 0 S fun y1 y2 y3 => dSs 1 y1 fun y5 l4 => dD 22 (.list 3 (.int .i64)) y5 fun x0 => dSs 2 l4 fun y7 l6 => dD 3 (.int .i64) y7 fun x1 => dSI 3 .u8 l6 fun x2 l8 => dSI 4 .u8 l8 fun x3 l9 => dSt 6 l9 fun y11 l10 => dL 6 0 y11 <| dSs 13 l10 fun y13 l12 => dBool y13 fun x4 => dSI 14 .i64 l12 fun x5 l14 => dSI 15 .i64 l14 fun x6 l15 => dE l15 <| dLo 6 y2 fun y16 l17 => dC y16 fun y18 l19 => dD 3 (.int .i64) y18 fun x7 => dC l19 fun y20 l21 => dD 26 (.list 22 (.list 3 (.int .i64))) y20 fun x8 => dE l21 <| dE l17 <| dE y3 <|  some [(ok (L8_76_0 x0 x1 x2 x3 x4 x5 x6 x7 x8), .ret, { sl := [(12, .v (.sc (.bool ((val (L8_76_0 x0 x1 x2 x3 x4 x5 x6 x7 x8))))))], lo := [], h := [], n0 := 0, w := true })]
theorem wL8_76_0 : NewTell Try.prog dOk base o73 t73 ((8, 76), sL8_76_0) := by
  refine ⟨(codeAt Try.prog (tn0 8) 8 76), 0, by kernel_rfl, ?_⟩
  intro S alts e S' h10 h2
  have h1 : sL8_76_0 S = some alts := h10
  clear h10
  unfold sL8_76_0 at h1
  replace h1 := dCS_some h1; obtain ⟨y1, y2, y3, rfl, h1⟩ := h1
  replace h1 := dSs_some h1; obtain ⟨y5, l4, rfl, h1⟩ := h1
  replace h1 := dD_some h1; obtain ⟨x0, rfl, h1⟩ := h1
  replace h1 := dSs_some h1; obtain ⟨y7, l6, rfl, h1⟩ := h1
  replace h1 := dD_some h1; obtain ⟨x1, rfl, h1⟩ := h1
  replace h1 := dSI_some h1; obtain ⟨x2, l8, rfl, h1⟩ := h1
  replace h1 := dSI_some h1; obtain ⟨x3, l9, rfl, h1⟩ := h1
  replace h1 := dSt_some h1; obtain ⟨y11, l10, rfl, h1⟩ := h1
  replace h1 := dL_some h1; obtain ⟨rfl, h1⟩ := h1
  replace h1 := dSs_some h1; obtain ⟨y13, l12, rfl, h1⟩ := h1
  replace h1 := dBool_some h1; obtain ⟨x4, rfl, h1⟩ := h1
  replace h1 := dSI_some h1; obtain ⟨x5, l14, rfl, h1⟩ := h1
  replace h1 := dSI_some h1; obtain ⟨x6, l15, rfl, h1⟩ := h1
  replace h1 := dE_some h1; obtain ⟨rfl, h1⟩ := h1
  replace h1 := dLo_some h1; obtain ⟨y16, l17, rfl, h1⟩ := h1
  replace h1 := dC_some h1; obtain ⟨y18, l19, rfl, h1⟩ := h1
  replace h1 := dD_some h1; obtain ⟨x7, rfl, h1⟩ := h1
  replace h1 := dC_some h1; obtain ⟨y20, l21, rfl, h1⟩ := h1
  replace h1 := dD_some h1; obtain ⟨x8, rfl, h1⟩ := h1
  replace h1 := dE_some h1; obtain ⟨rfl, h1⟩ := h1
  replace h1 := dE_some h1; obtain ⟨rfl, h1⟩ := h1
  replace h1 := dE_some h1; obtain ⟨rfl, h1⟩ := h1
  cases h1
  obtain ⟨hc0, rfl, rfl⟩ := pick_one h2
  exact ⟨0 + 40, (evPiece_code rfl).trans (lL8_76_0 0 _ _ _ _ _ _ _ _ _ _ (ok_val hc0))⟩
noncomputable def o74 : OrcT := o73
noncomputable def t74 : TellT := ((8, 76), sL8_76_0) :: t73
noncomputable abbrev tn74 : FuncId → TAn := mkTn base o74 t74
theorem ok74 : TnOk Try.prog tn74 (mkA base) dOk := by
  have h0 : TnOk Try.prog (mkTn base o73 t73) (mkA base) dOk := ok73
  have h1 := tn_tell h0 h0 (p := ((8, 76), sL8_76_0)) wL8_76_0
  exact h1
noncomputable def L8_36_0 (x0 : (List (List Int))) (x1 : (List Int)) (x2 : Int) (x3 : Int) (x4 : Int) (x5 : Bool) (x6 : (List Int)) (x7 : (List (List (List Int)))) : Option Bool := (cond (ok (v11 x6 x7 x0 x1)) (cond (decide ((↑(List.length x6) : Int) < (8 : Int))) (cond (decide (List.length x6 ≤ nat_lit 2147483648)) (cond (decide (List.length x6 + List.length [Int.tmod (IntKind.wrap IntKind.i64 x4) (1001 : Int)] ≤ nat_lit 2147483648)) (cond (decide (List.length x1 ≤ nat_lit 2147483648)) (cond (decide (List.length x1 + List.length [(0 : Int)] ≤ nat_lit 2147483648)) (cond (ok (v11 (x6 ++ [Int.tmod (IntKind.wrap IntKind.i64 x4) (1001 : Int)]) x7 x0 (x1 ++ [(0 : Int)]))) (cond (isL (L8_60_0 x0 x1 x2 x3 x5 (Prod.fst (val (v11 x6 x7 x0 x1))) (Prod.snd (val (v11 x6 x7 x0 x1))) (Prod.fst (val (v11 (x6 ++ [Int.tmod (IntKind.wrap IntKind.i64 x4) (1001 : Int)]) x7 x0 (x1 ++ [(0 : Int)])))) (Prod.snd (val (v11 (x6 ++ [Int.tmod (IntKind.wrap IntKind.i64 x4) (1001 : Int)]) x7 x0 (x1 ++ [(0 : Int)])))) x6 x7)) (some (getL (L8_60_0 x0 x1 x2 x3 x5 (Prod.fst (val (v11 x6 x7 x0 x1))) (Prod.snd (val (v11 x6 x7 x0 x1))) (Prod.fst (val (v11 (x6 ++ [Int.tmod (IntKind.wrap IntKind.i64 x4) (1001 : Int)]) x7 x0 (x1 ++ [(0 : Int)])))) (Prod.snd (val (v11 (x6 ++ [Int.tmod (IntKind.wrap IntKind.i64 x4) (1001 : Int)]) x7 x0 (x1 ++ [(0 : Int)])))) x6 x7))) (cond (ok (getR (L8_60_0 x0 x1 x2 x3 x5 (Prod.fst (val (v11 x6 x7 x0 x1))) (Prod.snd (val (v11 x6 x7 x0 x1))) (Prod.fst (val (v11 (x6 ++ [Int.tmod (IntKind.wrap IntKind.i64 x4) (1001 : Int)]) x7 x0 (x1 ++ [(0 : Int)])))) (Prod.snd (val (v11 (x6 ++ [Int.tmod (IntKind.wrap IntKind.i64 x4) (1001 : Int)]) x7 x0 (x1 ++ [(0 : Int)])))) x6 x7))) (cond (ok (L8_76_0 x0 x1 x2 x3 x5 (Prod.fst (val (v11 x6 x7 x0 x1))) (Prod.snd (val (v11 x6 x7 x0 x1))) x6 x7)) (some (val (L8_76_0 x0 x1 x2 x3 x5 (Prod.fst (val (v11 x6 x7 x0 x1))) (Prod.snd (val (v11 x6 x7 x0 x1))) x6 x7))) none) none)) none) none) none) none) none) (cond (ok (L8_76_0 x0 x1 x2 x3 x5 (Prod.fst (val (v11 x6 x7 x0 x1))) (Prod.snd (val (v11 x6 x7 x0 x1))) x6 x7)) (some (val (L8_76_0 x0 x1 x2 x3 x5 (Prod.fst (val (v11 x6 x7 x0 x1))) (Prod.snd (val (v11 x6 x7 x0 x1))) x6 x7))) none)) none)
noncomputable def xL8_36_0 (x0 : (List (List Int))) (x1 : (List Int)) (x2 : Int) (x3 : Int) (x4 : Int) (x5 : Bool) (x6 : (List Int)) (x7 : (List (List (List Int)))) : Bool → Ex × CS := fun r => (.ret, { sl := [(12, .v (.sc (.bool (r))))], lo := [], h := [], n0 := 0, w := true })
theorem bL8_36_0 (k : Nat) (cX : Ex → CS → Option (Ex × CS)) (x0 : (List (List Int))) (x1 : (List Int)) (x2 : Int) (x3 : Int) (x4 : Int) (x5 : Bool) (x6 : (List Int)) (x7 : (List (List (List Int)))) : pieceBody Try.prog (mkTn base o74 t74 8) (TM.evF Try.prog (mkTn base o74 t74) dOk (k + 40)) dOk (k + 40) (codeAt Try.prog (tn0 8) 8 36) 0 36 { sl := [(1, .v (.sc (.d 22 (.list 3 (.int .i64)) (x0)))), (2, .v (.sc (.d 3 (.int .i64) (x1)))), (3, .v (.sc (.int .u8 (x2)))), (4, .v (.sc (.int .u8 (x3)))), (5, .v (.sc (.int .u16 (x4)))), (6, .l 6 0), (13, .v (.sc (.bool (x5))))], lo := [(6, [.d 3 (.int .i64) (x6), .d 26 (.list 22 (.list 3 (.int .i64))) (x7)])], h := [], n0 := 0, w := false } cX = (cond (ok (v11 x6 x7 x0 x1)) (cond (decide ((↑(List.length x6) : Int) < (8 : Int))) (cond (decide (List.length x6 ≤ nat_lit 2147483648)) (cond (decide (List.length x6 + List.length [Int.tmod (IntKind.wrap IntKind.i64 x4) (1001 : Int)] ≤ nat_lit 2147483648)) (cond (decide (List.length x1 ≤ nat_lit 2147483648)) (cond (decide (List.length x1 + List.length [(0 : Int)] ≤ nat_lit 2147483648)) (cond (ok (v11 (x6 ++ [Int.tmod (IntKind.wrap IntKind.i64 x4) (1001 : Int)]) x7 x0 (x1 ++ [(0 : Int)]))) (cond (isL (L8_60_0 x0 x1 x2 x3 x5 (Prod.fst (val (v11 x6 x7 x0 x1))) (Prod.snd (val (v11 x6 x7 x0 x1))) (Prod.fst (val (v11 (x6 ++ [Int.tmod (IntKind.wrap IntKind.i64 x4) (1001 : Int)]) x7 x0 (x1 ++ [(0 : Int)])))) (Prod.snd (val (v11 (x6 ++ [Int.tmod (IntKind.wrap IntKind.i64 x4) (1001 : Int)]) x7 x0 (x1 ++ [(0 : Int)])))) x6 x7)) (cX .ret { sl := [(12, .v (.sc (.bool (getL (L8_60_0 x0 x1 x2 x3 x5 (Prod.fst (val (v11 x6 x7 x0 x1))) (Prod.snd (val (v11 x6 x7 x0 x1))) (Prod.fst (val (v11 (x6 ++ [Int.tmod (IntKind.wrap IntKind.i64 x4) (1001 : Int)]) x7 x0 (x1 ++ [(0 : Int)])))) (Prod.snd (val (v11 (x6 ++ [Int.tmod (IntKind.wrap IntKind.i64 x4) (1001 : Int)]) x7 x0 (x1 ++ [(0 : Int)])))) x6 x7)))))], lo := [], h := [], n0 := 0, w := true }) (cond (ok (getR (L8_60_0 x0 x1 x2 x3 x5 (Prod.fst (val (v11 x6 x7 x0 x1))) (Prod.snd (val (v11 x6 x7 x0 x1))) (Prod.fst (val (v11 (x6 ++ [Int.tmod (IntKind.wrap IntKind.i64 x4) (1001 : Int)]) x7 x0 (x1 ++ [(0 : Int)])))) (Prod.snd (val (v11 (x6 ++ [Int.tmod (IntKind.wrap IntKind.i64 x4) (1001 : Int)]) x7 x0 (x1 ++ [(0 : Int)])))) x6 x7))) (cond (ok (L8_76_0 x0 x1 x2 x3 x5 (Prod.fst (val (v11 x6 x7 x0 x1))) (Prod.snd (val (v11 x6 x7 x0 x1))) x6 x7)) (cX .ret { sl := [(12, .v (.sc (.bool (val (L8_76_0 x0 x1 x2 x3 x5 (Prod.fst (val (v11 x6 x7 x0 x1))) (Prod.snd (val (v11 x6 x7 x0 x1))) x6 x7)))))], lo := [], h := [], n0 := 0, w := true }) none) none)) none) none) none) none) none) (cond (ok (L8_76_0 x0 x1 x2 x3 x5 (Prod.fst (val (v11 x6 x7 x0 x1))) (Prod.snd (val (v11 x6 x7 x0 x1))) x6 x7)) (cX .ret { sl := [(12, .v (.sc (.bool (val (L8_76_0 x0 x1 x2 x3 x5 (Prod.fst (val (v11 x6 x7 x0 x1))) (Prod.snd (val (v11 x6 x7 x0 x1))) x6 x7)))))], lo := [], h := [], n0 := 0, w := true }) none)) none) := by kernel_rfl
theorem lL8_36_0 (k : Nat) (x0 : (List (List Int))) (x1 : (List Int)) (x2 : Int) (x3 : Int) (x4 : Int) (x5 : Bool) (x6 : (List Int)) (x7 : (List (List (List Int)))) (r : Bool) : L8_36_0 x0 x1 x2 x3 x4 x5 x6 x7 = some r → pieceBody Try.prog (mkTn base o74 t74 8) (TM.evF Try.prog (mkTn base o74 t74) dOk (k + 40)) dOk (k + 40) (codeAt Try.prog (tn0 8) 8 36) 0 36 { sl := [(1, .v (.sc (.d 22 (.list 3 (.int .i64)) (x0)))), (2, .v (.sc (.d 3 (.int .i64) (x1)))), (3, .v (.sc (.int .u8 (x2)))), (4, .v (.sc (.int .u8 (x3)))), (5, .v (.sc (.int .u16 (x4)))), (6, .l 6 0), (13, .v (.sc (.bool (x5))))], lo := [(6, [.d 3 (.int .i64) (x6), .d 26 (.list 22 (.list 3 (.int .i64))) (x7)])], h := [], n0 := 0, w := false } (fun e s => some (e, s)) = some (xL8_36_0 x0 x1 x2 x3 x4 x5 x6 x7 r) := by
  rw [bL8_36_0]
  unfold L8_36_0
  cases (ok (v11 x6 x7 x0 x1)) with
  | true =>
    cases (decide ((↑(List.length x6) : Int) < (8 : Int))) with
    | true =>
      cases (decide (List.length x6 ≤ nat_lit 2147483648)) with
      | true =>
        cases (decide (List.length x6 + List.length [Int.tmod (IntKind.wrap IntKind.i64 x4) (1001 : Int)] ≤ nat_lit 2147483648)) with
        | true =>
          cases (decide (List.length x1 ≤ nat_lit 2147483648)) with
          | true =>
            cases (decide (List.length x1 + List.length [(0 : Int)] ≤ nat_lit 2147483648)) with
            | true =>
              cases (ok (v11 (x6 ++ [Int.tmod (IntKind.wrap IntKind.i64 x4) (1001 : Int)]) x7 x0 (x1 ++ [(0 : Int)]))) with
              | true =>
                cases (isL (L8_60_0 x0 x1 x2 x3 x5 (Prod.fst (val (v11 x6 x7 x0 x1))) (Prod.snd (val (v11 x6 x7 x0 x1))) (Prod.fst (val (v11 (x6 ++ [Int.tmod (IntKind.wrap IntKind.i64 x4) (1001 : Int)]) x7 x0 (x1 ++ [(0 : Int)])))) (Prod.snd (val (v11 (x6 ++ [Int.tmod (IntKind.wrap IntKind.i64 x4) (1001 : Int)]) x7 x0 (x1 ++ [(0 : Int)])))) x6 x7)) with
                | true =>
                  intro h; cases h; rfl
                | false =>
                  cases (ok (getR (L8_60_0 x0 x1 x2 x3 x5 (Prod.fst (val (v11 x6 x7 x0 x1))) (Prod.snd (val (v11 x6 x7 x0 x1))) (Prod.fst (val (v11 (x6 ++ [Int.tmod (IntKind.wrap IntKind.i64 x4) (1001 : Int)]) x7 x0 (x1 ++ [(0 : Int)])))) (Prod.snd (val (v11 (x6 ++ [Int.tmod (IntKind.wrap IntKind.i64 x4) (1001 : Int)]) x7 x0 (x1 ++ [(0 : Int)])))) x6 x7))) with
                  | true =>
                    cases (ok (L8_76_0 x0 x1 x2 x3 x5 (Prod.fst (val (v11 x6 x7 x0 x1))) (Prod.snd (val (v11 x6 x7 x0 x1))) x6 x7)) with
                    | true =>
                      intro h; cases h; rfl
                    | false =>
                      intro h; cases h
                  | false =>
                    intro h; cases h
              | false =>
                intro h; cases h
            | false =>
              intro h; cases h
          | false =>
            intro h; cases h
        | false =>
          intro h; cases h
      | false =>
        intro h; cases h
    | false =>
      cases (ok (L8_76_0 x0 x1 x2 x3 x5 (Prod.fst (val (v11 x6 x7 x0 x1))) (Prod.snd (val (v11 x6 x7 x0 x1))) x6 x7)) with
      | true =>
        intro h; cases h; rfl
      | false =>
        intro h; cases h
  | false =>
    intro h; cases h
noncomputable def sL8_36_0 : TellS := fun S => dCS 0 S fun y1 y2 y3 => dSs 1 y1 fun y5 l4 => dD 22 (.list 3 (.int .i64)) y5 fun x0 => dSs 2 l4 fun y7 l6 => dD 3 (.int .i64) y7 fun x1 => dSI 3 .u8 l6 fun x2 l8 => dSI 4 .u8 l8 fun x3 l9 => dSI 5 .u16 l9 fun x4 l10 => dSt 6 l10 fun y12 l11 => dL 6 0 y12 <| dSs 13 l11 fun y14 l13 => dBool y14 fun x5 => dE l13 <| dLo 6 y2 fun y15 l16 => dC y15 fun y17 l18 => dD 3 (.int .i64) y17 fun x6 => dC l18 fun y19 l20 => dD 26 (.list 22 (.list 3 (.int .i64))) y19 fun x7 => dE l20 <| dE l16 <| dE y3 <|  some [(ok (L8_36_0 x0 x1 x2 x3 x4 x5 x6 x7), .ret, { sl := [(12, .v (.sc (.bool ((val (L8_36_0 x0 x1 x2 x3 x4 x5 x6 x7))))))], lo := [], h := [], n0 := 0, w := true })]
theorem wL8_36_0 : NewTell Try.prog dOk base o74 t74 ((8, 36), sL8_36_0) := by
  refine ⟨(codeAt Try.prog (tn0 8) 8 36), 0, by kernel_rfl, ?_⟩
  intro S alts e S' h10 h2
  have h1 : sL8_36_0 S = some alts := h10
  clear h10
  unfold sL8_36_0 at h1
  replace h1 := dCS_some h1; obtain ⟨y1, y2, y3, rfl, h1⟩ := h1
  replace h1 := dSs_some h1; obtain ⟨y5, l4, rfl, h1⟩ := h1
  replace h1 := dD_some h1; obtain ⟨x0, rfl, h1⟩ := h1
  replace h1 := dSs_some h1; obtain ⟨y7, l6, rfl, h1⟩ := h1
  replace h1 := dD_some h1; obtain ⟨x1, rfl, h1⟩ := h1
  replace h1 := dSI_some h1; obtain ⟨x2, l8, rfl, h1⟩ := h1
  replace h1 := dSI_some h1; obtain ⟨x3, l9, rfl, h1⟩ := h1
  replace h1 := dSI_some h1; obtain ⟨x4, l10, rfl, h1⟩ := h1
  replace h1 := dSt_some h1; obtain ⟨y12, l11, rfl, h1⟩ := h1
  replace h1 := dL_some h1; obtain ⟨rfl, h1⟩ := h1
  replace h1 := dSs_some h1; obtain ⟨y14, l13, rfl, h1⟩ := h1
  replace h1 := dBool_some h1; obtain ⟨x5, rfl, h1⟩ := h1
  replace h1 := dE_some h1; obtain ⟨rfl, h1⟩ := h1
  replace h1 := dLo_some h1; obtain ⟨y15, l16, rfl, h1⟩ := h1
  replace h1 := dC_some h1; obtain ⟨y17, l18, rfl, h1⟩ := h1
  replace h1 := dD_some h1; obtain ⟨x6, rfl, h1⟩ := h1
  replace h1 := dC_some h1; obtain ⟨y19, l20, rfl, h1⟩ := h1
  replace h1 := dD_some h1; obtain ⟨x7, rfl, h1⟩ := h1
  replace h1 := dE_some h1; obtain ⟨rfl, h1⟩ := h1
  replace h1 := dE_some h1; obtain ⟨rfl, h1⟩ := h1
  replace h1 := dE_some h1; obtain ⟨rfl, h1⟩ := h1
  cases h1
  obtain ⟨hc0, rfl, rfl⟩ := pick_one h2
  exact ⟨0 + 40, (evPiece_code rfl).trans (lL8_36_0 0 _ _ _ _ _ _ _ _ _ (ok_val hc0))⟩
noncomputable def o75 : OrcT := o74
noncomputable def t75 : TellT := ((8, 36), sL8_36_0) :: t74
noncomputable abbrev tn75 : FuncId → TAn := mkTn base o75 t75
theorem ok75 : TnOk Try.prog tn75 (mkA base) dOk := by
  have h0 : TnOk Try.prog (mkTn base o74 t74) (mkA base) dOk := ok74
  have h1 := tn_tell h0 h0 (p := ((8, 36), sL8_36_0)) wL8_36_0
  exact h1
noncomputable def v8 (x0 : (List Int)) (x1 : (List (List (List Int)))) (x2 : (List (List Int))) (x3 : (List Int)) (x4 : Int) (x5 : Int) (x6 : Int) : Option Bool := (cond (ok (v10 x0 x1 x2 x3)) (cond (!val (v10 x0 x1 x2 x3)) (some (true)) (cond (ok (v14 x0 x1)) (cond (!val (v14 x0 x1)) (some (true)) (cond (ok (v17 x0 x1 x2)) (cond (!val (v17 x0 x1 x2)) (some (true)) (cond (ok (v23 x0 x1 x3)) (cond (!val (v23 x0 x1 x3)) (some (true)) (cond (ok (L8_36_0 x2 x3 x4 x5 x6 (val v9) x0 x1)) (some (val (L8_36_0 x2 x3 x4 x5 x6 (val v9) x0 x1))) none)) none)) none)) none)) none)
theorem ev8 (x0 : (List Int)) (x1 : (List (List (List Int)))) (x2 : (List (List Int))) (x3 : (List Int)) (x4 : Int) (x5 : Int) (x6 : Int) : fnBody Try.prog (mkTn base o75 t75 8) (TM.evF Try.prog (mkTn base o75 t75) dOk 40) dOk 40 8 [.agg [.d 3 (.int .i64) (x0), .d 26 (.list 22 (.list 3 (.int .i64))) (x1)], .sc (.d 22 (.list 3 (.int .i64)) (x2)), .sc (.d 3 (.int .i64) (x3)), .sc (.int .u8 (x4)), .sc (.int .u8 (x5)), .sc (.int .u16 (x6))] [] = (v8 x0 x1 x2 x3 x4 x5 x6).bind fun r => some ([.sc (.bool (r))], []) := by
  refine Eq.trans (b := (cond (ok (v10 x0 x1 x2 x3)) (cond (!val (v10 x0 x1 x2 x3)) (some ([.sc (.bool (true))], [])) (cond (ok (v14 x0 x1)) (cond (!val (v14 x0 x1)) (some ([.sc (.bool (true))], [])) (cond (ok (v17 x0 x1 x2)) (cond (!val (v17 x0 x1 x2)) (some ([.sc (.bool (true))], [])) (cond (ok (v23 x0 x1 x3)) (cond (!val (v23 x0 x1 x3)) (some ([.sc (.bool (true))], [])) (cond (ok (L8_36_0 x2 x3 x4 x5 x6 (val v9) x0 x1)) (some ([.sc (.bool (val (L8_36_0 x2 x3 x4 x5 x6 (val v9) x0 x1)))], [])) none)) none)) none)) none)) none)) (by kernel_rfl) ?_
  unfold v8
  cases (ok (v10 x0 x1 x2 x3)) with
  | true =>
    cases (!val (v10 x0 x1 x2 x3)) with
    | true =>
      rfl
    | false =>
      cases (ok (v14 x0 x1)) with
      | true =>
        cases (!val (v14 x0 x1)) with
        | true =>
          rfl
        | false =>
          cases (ok (v17 x0 x1 x2)) with
          | true =>
            cases (!val (v17 x0 x1 x2)) with
            | true =>
              rfl
            | false =>
              cases (ok (v23 x0 x1 x3)) with
              | true =>
                cases (!val (v23 x0 x1 x3)) with
                | true =>
                  rfl
                | false =>
                  cases (ok (L8_36_0 x2 x3 x4 x5 x6 (val v9) x0 x1)) with
                  | true =>
                    rfl
                  | false =>
                    rfl
              | false =>
                rfl
          | false =>
            rfl
      | false =>
        rfl
  | false =>
    rfl
noncomputable def sv8 : OrcS := fun al H => dC al fun y1 l2 => dA y1 fun y3 => dC y3 fun y4 l5 => dD 3 (.int .i64) y4 fun x0 => dC l5 fun y6 l7 => dD 26 (.list 22 (.list 3 (.int .i64))) y6 fun x1 => dE l7 <| dC l2 fun y8 l9 => dS y8 fun y10 => dD 22 (.list 3 (.int .i64)) y10 fun x2 => dC l9 fun y11 l12 => dS y11 fun y13 => dD 3 (.int .i64) y13 fun x3 => dC l12 fun y14 l15 => dS y14 fun y16 => dInt .u8 y16 fun x4 => dC l15 fun y17 l18 => dS y17 fun y19 => dInt .u8 y19 fun x5 => dC l18 fun y20 l21 => dS y20 fun y22 => dInt .u16 y22 fun x6 => dE l21 <| dE H <|  some [(ok (v8 x0 x1 x2 x3 x4 x5 x6), [.sc (.bool ((val (v8 x0 x1 x2 x3 x4 x5 x6))))], [])]
theorem wv8 : NewOrc Try.prog dOk base o75 t75 (8, sv8) := by
  intro al H q hq0 rs H2 h2
  have hq : sv8 al H = some q := hq0
  clear hq0
  unfold sv8 at hq
  replace hq := dC_some hq; obtain ⟨y1, l2, rfl, hq⟩ := hq
  replace hq := dA_some hq; obtain ⟨y3, rfl, hq⟩ := hq
  replace hq := dC_some hq; obtain ⟨y4, l5, rfl, hq⟩ := hq
  replace hq := dD_some hq; obtain ⟨x0, rfl, hq⟩ := hq
  replace hq := dC_some hq; obtain ⟨y6, l7, rfl, hq⟩ := hq
  replace hq := dD_some hq; obtain ⟨x1, rfl, hq⟩ := hq
  replace hq := dE_some hq; obtain ⟨rfl, hq⟩ := hq
  replace hq := dC_some hq; obtain ⟨y8, l9, rfl, hq⟩ := hq
  replace hq := dS_some hq; obtain ⟨y10, rfl, hq⟩ := hq
  replace hq := dD_some hq; obtain ⟨x2, rfl, hq⟩ := hq
  replace hq := dC_some hq; obtain ⟨y11, l12, rfl, hq⟩ := hq
  replace hq := dS_some hq; obtain ⟨y13, rfl, hq⟩ := hq
  replace hq := dD_some hq; obtain ⟨x3, rfl, hq⟩ := hq
  replace hq := dC_some hq; obtain ⟨y14, l15, rfl, hq⟩ := hq
  replace hq := dS_some hq; obtain ⟨y16, rfl, hq⟩ := hq
  replace hq := dInt_some hq; obtain ⟨x4, rfl, hq⟩ := hq
  replace hq := dC_some hq; obtain ⟨y17, l18, rfl, hq⟩ := hq
  replace hq := dS_some hq; obtain ⟨y19, rfl, hq⟩ := hq
  replace hq := dInt_some hq; obtain ⟨x5, rfl, hq⟩ := hq
  replace hq := dC_some hq; obtain ⟨y20, l21, rfl, hq⟩ := hq
  replace hq := dS_some hq; obtain ⟨y22, rfl, hq⟩ := hq
  replace hq := dInt_some hq; obtain ⟨x6, rfl, hq⟩ := hq
  replace hq := dE_some hq; obtain ⟨rfl, hq⟩ := hq
  replace hq := dE_some hq; obtain ⟨rfl, hq⟩ := hq
  cases hq
  obtain ⟨hc0, rfl, rfl⟩ := pickR_one h2
  exact ⟨41, (fn_eq (by kernel_rfl)).trans ((ev8 _ _ _ _ _ _ _).trans (bind_of (ok_val hc0)))⟩
noncomputable def o76 : OrcT := (8, sv8) :: o75
noncomputable def t76 : TellT := t75
noncomputable abbrev tn76 : FuncId → TAn := mkTn base o76 t76
theorem ok76 : TnOk Try.prog tn76 (mkA base) dOk := by
  have h0 : TnOk Try.prog (mkTn base o75 t75) (mkA base) dOk := ok75
  have h1 := tn_orc h0 h0 (p := (8, sv8)) wv8
  exact h1
end Go.Proofs.Ytajodcnnadbjkaa
