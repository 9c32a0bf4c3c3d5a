/- What some functions and loops come to: printed and checked. Written by a program of ours. -/
import Derived.Test.YtajodcnnadbjkaaG1
set_option linter.all false
set_option linter.constructorNameAsVariable false
set_option linter.unnecessarySimpa false
set_option linter.unusedSimpArgs false
set_option linter.unusedVariables false
set_option maxRecDepth 1000000
set_option linter.unusedVariables false
set_option maxHeartbeats 4000000
namespace Go.Proofs.Ytajodcnnadbjkaa
open Go Go.AM Go.TM Go.Proofs
noncomputable def v25 : Option ((List Int) × (List (List (List Int)))) := (some ([(2 : Int)], [[[(0 : Int)]], [[(0 : Int)]]]))
theorem ev25 : fnBody Try.prog (mkTn base o66 t66 25) (TM.evF Try.prog (mkTn base o66 t66) dOk 40) dOk 40 25 [] [] = (v25).bind fun r => some ([.agg [.d 3 (.int .i64) (r.1 : List Int), .d 26 (.list 22 (.list 3 (.int .i64))) (r.2 : List (List (List Int)))]], []) := by
  refine Eq.trans (b := (some ([.agg [.d 3 (.int .i64) ([(2 : Int)] : List Int), .d 26 (.list 22 (.list 3 (.int .i64))) ([[[(0 : Int)]], [[(0 : Int)]]] : List (List (List Int)))]], []))) (by kernel_rfl) ?_
  unfold v25
  rfl
noncomputable def sv25 : OrcS := fun al H => dE al <| dE H <|  some [(ok (v25), [.agg [.d 3 (.int .i64) ((val (v25)).1 : List Int), .d 26 (.list 22 (.list 3 (.int .i64))) ((val (v25)).2 : List (List (List Int)))]], [])]
theorem wv25 : NewOrc Try.prog dOk base o66 t66 (25, sv25) := by
  intro al H q hq0 rs H2 h2
  have hq : sv25 al H = some q := hq0
  clear hq0
  unfold sv25 at hq
  replace hq := dE_some hq; obtain ⟨rfl, hq⟩ := hq
  replace hq := dE_some hq; obtain ⟨rfl, hq⟩ := hq
  cases hq
  obtain ⟨hc0, rfl, rfl⟩ := pickR_one h2
  exact ⟨41, (fn_eq (by kernel_rfl)).trans ((ev25 ).trans (bind_of (ok_val hc0)))⟩
noncomputable def o67 : OrcT := (25, sv25) :: o66
noncomputable def t67 : TellT := t66
noncomputable abbrev tn67 : FuncId → TAn := mkTn base o67 t67
theorem ok67 : TnOk Try.prog tn67 (mkA base) dOk := by
  have h0 : TnOk Try.prog (mkTn base o66 t66) (mkA base) dOk := ok66
  have h1 := tn_orc h0 h0 (p := (25, sv25)) wv25
  exact h1
noncomputable def v24 (x0 : Int) (x1 : Int) (x2 : Int) (x3 : Int) (x4 : Int) : Option Bool := (cond (ok (v11 (Prod.fst (val v25)) (Prod.snd (val v25)) [[x0], [x1]] [x2])) (cond (Prod.fst (val (v11 (Prod.fst (val v25)) (Prod.snd (val v25)) [[x0], [x1]] [x2])) == x3) (some (Prod.snd (val (v11 (Prod.fst (val v25)) (Prod.snd (val v25)) [[x0], [x1]] [x2])) == x4)) (some (false))) none)
theorem ev24 (x0 : Int) (x1 : Int) (x2 : Int) (x3 : Int) (x4 : Int) : fnBody Try.prog (mkTn base o67 t67 24) (TM.evF Try.prog (mkTn base o67 t67) dOk 40) dOk 40 24 [.sc (.int .i64 (x0)), .sc (.int .i64 (x1)), .sc (.int .i64 (x2)), .sc (.int .i64 (x3)), .sc (.int .i64 (x4))] [] = (v24 x0 x1 x2 x3 x4).bind fun r => some ([.sc (.bool (r))], []) := by
  refine Eq.trans (b := (cond (ok (v11 (Prod.fst (val v25)) (Prod.snd (val v25)) [[x0], [x1]] [x2])) (cond (Prod.fst (val (v11 (Prod.fst (val v25)) (Prod.snd (val v25)) [[x0], [x1]] [x2])) == x3) (some ([.sc (.bool (Prod.snd (val (v11 (Prod.fst (val v25)) (Prod.snd (val v25)) [[x0], [x1]] [x2])) == x4))], [])) (some ([.sc (.bool (false))], []))) none)) (by kernel_rfl) ?_
  unfold v24
  cases (ok (v11 (Prod.fst (val v25)) (Prod.snd (val v25)) [[x0], [x1]] [x2])) with
  | true =>
    cases (Prod.fst (val (v11 (Prod.fst (val v25)) (Prod.snd (val v25)) [[x0], [x1]] [x2])) == x3) with
    | true =>
      rfl
    | false =>
      rfl
  | false =>
    rfl
noncomputable def sv24 : OrcS := fun al H => dC al fun y1 l2 => dS y1 fun y3 => dInt .i64 y3 fun x0 => dC l2 fun y4 l5 => dS y4 fun y6 => dInt .i64 y6 fun x1 => dC l5 fun y7 l8 => dS y7 fun y9 => dInt .i64 y9 fun x2 => dC l8 fun y10 l11 => dS y10 fun y12 => dInt .i64 y12 fun x3 => dC l11 fun y13 l14 => dS y13 fun y15 => dInt .i64 y15 fun x4 => dE l14 <| dE H <|  some [(ok (v24 x0 x1 x2 x3 x4), [.sc (.bool ((val (v24 x0 x1 x2 x3 x4))))], [])]
theorem wv24 : NewOrc Try.prog dOk base o67 t67 (24, sv24) := by
  intro al H q hq0 rs H2 h2
  have hq : sv24 al H = some q := hq0
  clear hq0
  unfold sv24 at hq
  replace hq := dC_some hq; obtain ⟨y1, l2, rfl, hq⟩ := hq
  replace hq := dS_some hq; obtain ⟨y3, rfl, hq⟩ := hq
  replace hq := dInt_some hq; obtain ⟨x0, rfl, hq⟩ := hq
  replace hq := dC_some hq; obtain ⟨y4, l5, rfl, hq⟩ := hq
  replace hq := dS_some hq; obtain ⟨y6, rfl, hq⟩ := hq
  replace hq := dInt_some hq; obtain ⟨x1, rfl, hq⟩ := hq
  replace hq := dC_some hq; obtain ⟨y7, l8, rfl, hq⟩ := hq
  replace hq := dS_some hq; obtain ⟨y9, rfl, hq⟩ := hq
  replace hq := dInt_some hq; obtain ⟨x2, rfl, hq⟩ := hq
  replace hq := dC_some hq; obtain ⟨y10, l11, rfl, hq⟩ := hq
  replace hq := dS_some hq; obtain ⟨y12, rfl, hq⟩ := hq
  replace hq := dInt_some hq; obtain ⟨x3, rfl, hq⟩ := hq
  replace hq := dC_some hq; obtain ⟨y13, l14, rfl, hq⟩ := hq
  replace hq := dS_some hq; obtain ⟨y15, rfl, hq⟩ := hq
  replace hq := dInt_some hq; obtain ⟨x4, rfl, hq⟩ := hq
  replace hq := dE_some hq; obtain ⟨rfl, hq⟩ := hq
  replace hq := dE_some hq; obtain ⟨rfl, hq⟩ := hq
  cases hq
  obtain ⟨hc0, rfl, rfl⟩ := pickR_one h2
  exact ⟨41, (fn_eq (by kernel_rfl)).trans ((ev24 _ _ _ _ _).trans (bind_of (ok_val hc0)))⟩
noncomputable def o68 : OrcT := (24, sv24) :: o67
noncomputable def t68 : TellT := t67
noncomputable abbrev tn68 : FuncId → TAn := mkTn base o68 t68
theorem ok68 : TnOk Try.prog tn68 (mkA base) dOk := by
  have h0 : TnOk Try.prog (mkTn base o67 t67) (mkA base) dOk := ok67
  have h1 := tn_orc h0 h0 (p := (24, sv24)) wv24
  exact h1
noncomputable def v9 : Option Bool := (some (true))
theorem ev9 : fnBody Try.prog (mkTn base o68 t68 9) (TM.evF Try.prog (mkTn base o68 t68) dOk 40) dOk 40 9 [] [] = (v9).bind fun r => some ([.sc (.bool (r))], []) := by
  refine Eq.trans (b := (some ([.sc (.bool (true))], []))) (by kernel_rfl) ?_
  unfold v9
  rfl
noncomputable def sv9 : OrcS := fun al H => dE al <| dE H <|  some [(ok (v9), [.sc (.bool ((val (v9))))], [])]
theorem wv9 : NewOrc Try.prog dOk base o68 t68 (9, sv9) := by
  intro al H q hq0 rs H2 h2
  have hq : sv9 al H = some q := hq0
  clear hq0
  unfold sv9 at hq
  replace hq := dE_some hq; obtain ⟨rfl, hq⟩ := hq
  replace hq := dE_some hq; obtain ⟨rfl, hq⟩ := hq
  cases hq
  obtain ⟨hc0, rfl, rfl⟩ := pickR_one h2
  exact ⟨41, (fn_eq (by kernel_rfl)).trans ((ev9 ).trans (bind_of (ok_val hc0)))⟩
noncomputable def o69 : OrcT := (9, sv9) :: o68
noncomputable def t69 : TellT := t68
noncomputable abbrev tn69 : FuncId → TAn := mkTn base o69 t69
theorem ok69 : TnOk Try.prog tn69 (mkA base) dOk := by
  have h0 : TnOk Try.prog (mkTn base o68 t68) (mkA base) dOk := ok68
  have h1 := tn_orc h0 h0 (p := (9, sv9)) wv9
  exact h1
noncomputable def L51_0_0 : Nat → (List Int) → Int → Int → Option (Bool ⊕ Unit)
  | 0, _, _, _ => none
  | n + 1, x0, x1, x2 => (cond (decide (x2 < (↑(List.length x0) : Int))) (cond (decide ((0 : Int) ≤ x2)) (cond (List.getD x0 (Int.toNat x2) (0 : Int) == x1) (some (.inl (true))) (L51_0_0 n (x0) (x1) (IntKind.wrap IntKind.i64 (x2 + (1 : Int))))) none) (some (.inr ())))
theorem qL51_0_0 : type_of% @L51_0_0.eq_2 := @L51_0_0.eq_2
noncomputable def xL51_0_0 (x0 : (List Int)) (x1 : Int) (x2 : Int) : (Bool ⊕ Unit) → Ex × CS := fun r => match r with | .inl a0 => (.ret, { sl := [(4, .v (.sc (.bool (a0))))], lo := [], h := [], n0 := 0, w := true }) | .inr b0 => ((.exit 0), { sl := [], lo := [], h := [], n0 := 0, w := false })
theorem bL51_0_0 (k : Nat) (cN : CS → Option (Ex × CS)) (cX : Ex → CS → Option (Ex × CS)) (x0 : (List Int)) (x1 : Int) (x2 : Int) : loopBody Try.prog (mkTn base o69 t69 51) (TM.evF Try.prog (mkTn base o69 t69) dOk (k + 40)) dOk (k + 40) (codeAt Try.prog (tn0 51) 51 0) 0 0 { sl := [(0, .v (.sc (.d 3 (.int .i64) (x0)))), (1, .v (.sc (.int .i64 (x1)))), (5, .v (.sc (.int .i64 (x2))))], lo := [], h := [], n0 := 0, w := false } cN cX = (cond (decide (x2 < (↑(List.length x0) : Int))) (cond (decide ((0 : Int) ≤ x2)) (cond (decide (x2 < (↑(List.length x0) : Int))) (cond (List.getD x0 (Int.toNat x2) (0 : Int) == x1) (cX .ret { sl := [(4, .v (.sc (.bool (true))))], lo := [], h := [], n0 := 0, w := true }) (cN { sl := [(0, .v (.sc (.d 3 (.int .i64) (x0)))), (1, .v (.sc (.int .i64 (x1)))), (5, .v (.sc (.int .i64 (IntKind.wrap IntKind.i64 (x2 + (1 : Int))))))], lo := [], h := [], n0 := 0, w := false })) none) none) (cX (.exit 0) { sl := [], lo := [], h := [], n0 := 0, w := false })) := by kernel_rfl
theorem lL51_0_0 (k m : Nat) : ∀ (n : Nat) (x0 : (List Int)) (x1 : Int) (x2 : Int) (r : (Bool ⊕ Unit)), L51_0_0 n x0 x1 x2 = some r → loopE Try.prog (mkTn base o69 t69 51) (TM.evF Try.prog (mkTn base o69 t69) dOk (k + 40)) dOk (k + 40) (codeAt Try.prog (tn0 51) 51 0) 0 0 (n + m) { sl := [(0, .v (.sc (.d 3 (.int .i64) (x0)))), (1, .v (.sc (.int .i64 (x1)))), (5, .v (.sc (.int .i64 (x2))))], lo := [], h := [], n0 := 0, w := false } = some (xL51_0_0 x0 x1 x2 r) := by
  intro n
  induction n with
  | zero => intro _ _ _ r h; cases h
  | succ n ih =>
    intro x0 x1 x2 r
    rw [show n + 1 + m = n + m + 1 by omega, loop_step, bL51_0_0, qL51_0_0]
    cases (decide (x2 < (↑(List.length x0) : Int))) with
    | true =>
      cases (decide ((0 : Int) ≤ x2)) with
      | true =>
        cases (List.getD x0 (Int.toNat x2) (0 : Int) == x1) with
        | true =>
          intro h; cases h; rfl
        | false =>
          exact ih _ _ _ r
      | false =>
        intro h; cases h
    | false =>
      intro h; cases h; rfl
noncomputable def sL51_0_0 : TellS := fun S => dCS 0 S fun y1 y2 y3 => dSs 0 y1 fun y5 l4 => dD 3 (.int .i64) y5 fun x0 => dSI 1 .i64 l4 fun x1 l6 => dSI 5 .i64 l6 fun x2 l7 => dE l7 <| dE y2 <| dE y3 <|  some [(isL (L51_0_0 FU x0 x1 x2), .ret, { sl := [(4, .v (.sc (.bool ((getL (L51_0_0 FU x0 x1 x2))))))], lo := [], h := [], n0 := 0, w := true }), (ok (getR (L51_0_0 FU x0 x1 x2)), (.exit 0), { sl := [], lo := [], h := [], n0 := 0, w := false })]
theorem wL51_0_0 : NewTell Try.prog dOk base o69 t69 ((51, 0), sL51_0_0) := by
  refine ⟨.loop (codeAt Try.prog (tn0 51) 51 0), 0, by kernel_rfl, ?_⟩
  intro S alts e S' h10 h2
  have h1 : sL51_0_0 S = some alts := h10
  clear h10
  unfold sL51_0_0 at h1
  replace h1 := dCS_some h1; obtain ⟨y1, y2, y3, rfl, h1⟩ := h1
  replace h1 := dSs_some h1; obtain ⟨y5, l4, rfl, h1⟩ := h1
  replace h1 := dD_some h1; obtain ⟨x0, rfl, h1⟩ := h1
  replace h1 := dSI_some h1; obtain ⟨x1, l6, rfl, h1⟩ := h1
  replace h1 := dSI_some h1; obtain ⟨x2, l7, rfl, h1⟩ := h1
  replace h1 := dE_some h1; obtain ⟨rfl, h1⟩ := h1
  replace h1 := dE_some h1; obtain ⟨rfl, h1⟩ := h1
  replace h1 := dE_some h1; obtain ⟨rfl, h1⟩ := h1
  cases h1
  rcases pick_cons h2 with ⟨hc0, rfl, rfl⟩ | h2
  · exact ⟨FU + 40, (evPiece_loop rfl).trans (lL51_0_0 FU 40 FU _ _ _ _ (isL_val hc0))⟩
  obtain ⟨hc1, rfl, rfl⟩ := pick_one h2
  exact ⟨FU + 40, (evPiece_loop rfl).trans (lL51_0_0 FU 40 FU _ _ _ _ (getR_val (ok_val hc1)))⟩
noncomputable def o70 : OrcT := o69
noncomputable def t70 : TellT := ((51, 0), sL51_0_0) :: t69
noncomputable abbrev tn70 : FuncId → TAn := mkTn base o70 t70
theorem ok70 : TnOk Try.prog tn70 (mkA base) dOk := by
  have h0 : TnOk Try.prog (mkTn base o69 t69) (mkA base) dOk := ok69
  have h1 := tn_tell h0 h0 (p := ((51, 0), sL51_0_0)) wL51_0_0
  exact h1
noncomputable def v51 (x0 : (List Int)) (x1 : Int) : Option Bool := (cond (isL (L51_0_0 FU x0 x1 (0 : Int))) (some (getL (L51_0_0 FU x0 x1 (0 : Int)))) (cond (ok (getR (L51_0_0 FU x0 x1 (0 : Int)))) (some (false)) none))
theorem ev51 (x0 : (List Int)) (x1 : Int) : fnBody Try.prog (mkTn base o70 t70 51) (TM.evF Try.prog (mkTn base o70 t70) dOk 40) dOk 40 51 [.sc (.d 3 (.int .i64) (x0)), .sc (.int .i64 (x1))] [] = (v51 x0 x1).bind fun r => some ([.sc (.bool (r))], []) := by
  refine Eq.trans (b := (cond (isL (L51_0_0 FU x0 x1 (0 : Int))) (some ([.sc (.bool (getL (L51_0_0 FU x0 x1 (0 : Int))))], [])) (cond (ok (getR (L51_0_0 FU x0 x1 (0 : Int)))) (some ([.sc (.bool (false))], [])) none))) (by kernel_rfl) ?_
  unfold v51
  cases (isL (L51_0_0 FU x0 x1 (0 : Int))) with
  | true =>
    rfl
  | false =>
    cases (ok (getR (L51_0_0 FU x0 x1 (0 : Int)))) with
    | true =>
      rfl
    | false =>
      rfl
noncomputable def sv51 : OrcS := fun al H => dC al fun y1 l2 => dS y1 fun y3 => dD 3 (.int .i64) y3 fun x0 => dC l2 fun y4 l5 => dS y4 fun y6 => dInt .i64 y6 fun x1 => dE l5 <| dE H <|  some [(ok (v51 x0 x1), [.sc (.bool ((val (v51 x0 x1))))], [])]
theorem wv51 : NewOrc Try.prog dOk base o70 t70 (51, sv51) := by
  intro al H q hq0 rs H2 h2
  have hq : sv51 al H = some q := hq0
  clear hq0
  unfold sv51 at hq
  replace hq := dC_some hq; obtain ⟨y1, l2, rfl, hq⟩ := hq
  replace hq := dS_some hq; obtain ⟨y3, rfl, hq⟩ := hq
  replace hq := dD_some hq; obtain ⟨x0, rfl, hq⟩ := hq
  replace hq := dC_some hq; obtain ⟨y4, l5, rfl, hq⟩ := hq
  replace hq := dS_some hq; obtain ⟨y6, rfl, hq⟩ := hq
  replace hq := dInt_some hq; obtain ⟨x1, rfl, hq⟩ := hq
  replace hq := dE_some hq; obtain ⟨rfl, hq⟩ := hq
  replace hq := dE_some hq; obtain ⟨rfl, hq⟩ := hq
  cases hq
  obtain ⟨hc0, rfl, rfl⟩ := pickR_one h2
  exact ⟨41, (fn_eq (by kernel_rfl)).trans ((ev51 _ _).trans (bind_of (ok_val hc0)))⟩
noncomputable def o71 : OrcT := (51, sv51) :: o70
noncomputable def t71 : TellT := t70
noncomputable abbrev tn71 : FuncId → TAn := mkTn base o71 t71
theorem ok71 : TnOk Try.prog tn71 (mkA base) dOk := by
  have h0 : TnOk Try.prog (mkTn base o70 t70) (mkA base) dOk := ok70
  have h1 := tn_orc h0 h0 (p := (51, sv51)) wv51
  exact h1
noncomputable def L40_16_0 : Nat → (List (List Int)) → Int → Int → Int → Int → (List Int) → (List (List (List Int))) → Option Int
  | 0, _, _, _, _, _, _, _ => none
  | n + 1, x0, x1, x2, x3, x4, x5, x6 => (cond (decide ((0 : Int) ≤ x3)) (cond (decide (x3 < (↑(List.length x6) : Int))) (cond (decide (x4 < (↑(List.length (List.getD x6 (Int.toNat x3) [])) : Int))) (cond (decide ((0 : Int) ≤ x4)) (cond (ok (v51 (List.getD (List.getD x6 (Int.toNat x3) []) (Int.toNat x4) []) x1)) (cond (val (v51 (List.getD (List.getD x6 (Int.toNat x3) []) (Int.toNat x4) []) x1)) (cond (decide (x3 < (↑(List.length x0) : Int))) (cond (decide (x4 < (↑(List.length (List.getD x0 (Int.toNat x3) [])) : Int))) (L40_16_0 n (x0) (x1) (IntKind.wrap IntKind.i64 (x2 + List.getD (List.getD x0 (Int.toNat x3) []) (Int.toNat x4) (0 : Int))) (x3) (IntKind.wrap IntKind.i64 (x4 + (1 : Int))) (x5) (x6)) none) none) (L40_16_0 n (x0) (x1) (x2) (x3) (IntKind.wrap IntKind.i64 (x4 + (1 : Int))) (x5) (x6))) none) none) (some (x2))) none) none)
theorem qL40_16_0 : type_of% @L40_16_0.eq_2 := @L40_16_0.eq_2
noncomputable def xL40_16_0 (x0 : (List (List Int))) (x1 : Int) (x2 : Int) (x3 : Int) (x4 : Int) (x5 : (List Int)) (x6 : (List (List (List Int)))) : Int → Ex × CS := fun r => ((.exit 2), { sl := [(1, .v (.sc (.d 22 (.list 3 (.int .i64)) (x0)))), (2, .v (.sc (.int .i64 (x1)))), (3, .l 3 0), (7, .v (.sc (.int .i64 (r)))), (8, .v (.sc (.int .i64 (x3)))), (18, .l 3 1)], lo := [(3, [.d 3 (.int .i64) (x5), .d 26 (.list 22 (.list 3 (.int .i64))) (x6)])], h := [], n0 := 0, w := false })
theorem bL40_16_0 (k : Nat) (cN : CS → Option (Ex × CS)) (cX : Ex → CS → Option (Ex × CS)) (x0 : (List (List Int))) (x1 : Int) (x2 : Int) (x3 : Int) (x4 : Int) (x5 : (List Int)) (x6 : (List (List (List Int)))) : loopBody Try.prog (mkTn base o71 t71 40) (TM.evF Try.prog (mkTn base o71 t71) dOk (k + 40)) dOk (k + 40) (codeAt Try.prog (tn0 40) 40 16) 2 16 { sl := [(1, .v (.sc (.d 22 (.list 3 (.int .i64)) (x0)))), (2, .v (.sc (.int .i64 (x1)))), (3, .l 3 0), (7, .v (.sc (.int .i64 (x2)))), (8, .v (.sc (.int .i64 (x3)))), (9, .v (.sc (.int .i64 (x4))))], lo := [(3, [.d 3 (.int .i64) (x5), .d 26 (.list 22 (.list 3 (.int .i64))) (x6)])], h := [], n0 := 0, w := false } cN cX = (cond (decide ((0 : Int) ≤ x3)) (cond (decide (x3 < (↑(List.length x6) : Int))) (cond (decide (x4 < (↑(List.length (List.getD x6 (Int.toNat x3) [])) : Int))) (cond (decide ((0 : Int) ≤ x3)) (cond (decide (x3 < (↑(List.length x6) : Int))) (cond (decide ((0 : Int) ≤ x4)) (cond (decide (x4 < (↑(List.length (List.getD x6 (Int.toNat x3) [])) : Int))) (cond (ok (v51 (List.getD (List.getD x6 (Int.toNat x3) []) (Int.toNat x4) []) x1)) (cond (val (v51 (List.getD (List.getD x6 (Int.toNat x3) []) (Int.toNat x4) []) x1)) (cond (decide ((0 : Int) ≤ x3)) (cond (decide (x3 < (↑(List.length x0) : Int))) (cond (decide ((0 : Int) ≤ x4)) (cond (decide (x4 < (↑(List.length (List.getD x0 (Int.toNat x3) [])) : Int))) (cN { sl := [(1, .v (.sc (.d 22 (.list 3 (.int .i64)) (x0)))), (2, .v (.sc (.int .i64 (x1)))), (3, .l 3 0), (7, .v (.sc (.int .i64 (IntKind.wrap IntKind.i64 (x2 + List.getD (List.getD x0 (Int.toNat x3) []) (Int.toNat x4) (0 : Int)))))), (8, .v (.sc (.int .i64 (x3)))), (9, .v (.sc (.int .i64 (IntKind.wrap IntKind.i64 (x4 + (1 : Int))))))], lo := [(3, [.d 3 (.int .i64) (x5), .d 26 (.list 22 (.list 3 (.int .i64))) (x6)])], h := [], n0 := 0, w := false }) none) none) none) none) (cN { sl := [(1, .v (.sc (.d 22 (.list 3 (.int .i64)) (x0)))), (2, .v (.sc (.int .i64 (x1)))), (3, .l 3 0), (7, .v (.sc (.int .i64 (x2)))), (8, .v (.sc (.int .i64 (x3)))), (9, .v (.sc (.int .i64 (IntKind.wrap IntKind.i64 (x4 + (1 : Int))))))], lo := [(3, [.d 3 (.int .i64) (x5), .d 26 (.list 22 (.list 3 (.int .i64))) (x6)])], h := [], n0 := 0, w := false })) none) none) none) none) none) (cX (.exit 2) { sl := [(1, .v (.sc (.d 22 (.list 3 (.int .i64)) (x0)))), (2, .v (.sc (.int .i64 (x1)))), (3, .l 3 0), (7, .v (.sc (.int .i64 (x2)))), (8, .v (.sc (.int .i64 (x3)))), (18, .l 3 1)], lo := [(3, [.d 3 (.int .i64) (x5), .d 26 (.list 22 (.list 3 (.int .i64))) (x6)])], h := [], n0 := 0, w := false })) none) none) := by kernel_rfl
theorem lL40_16_0 (k m : Nat) : ∀ (n : Nat) (x0 : (List (List Int))) (x1 : Int) (x2 : Int) (x3 : Int) (x4 : Int) (x5 : (List Int)) (x6 : (List (List (List Int)))) (r : Int), L40_16_0 n x0 x1 x2 x3 x4 x5 x6 = some r → loopE Try.prog (mkTn base o71 t71 40) (TM.evF Try.prog (mkTn base o71 t71) dOk (k + 40)) dOk (k + 40) (codeAt Try.prog (tn0 40) 40 16) 2 16 (n + m) { sl := [(1, .v (.sc (.d 22 (.list 3 (.int .i64)) (x0)))), (2, .v (.sc (.int .i64 (x1)))), (3, .l 3 0), (7, .v (.sc (.int .i64 (x2)))), (8, .v (.sc (.int .i64 (x3)))), (9, .v (.sc (.int .i64 (x4))))], lo := [(3, [.d 3 (.int .i64) (x5), .d 26 (.list 22 (.list 3 (.int .i64))) (x6)])], h := [], n0 := 0, w := false } = some (xL40_16_0 x0 x1 x2 x3 x4 x5 x6 r) := by
  intro n
  induction n with
  | zero => intro _ _ _ _ _ _ _ r h; cases h
  | succ n ih =>
    intro x0 x1 x2 x3 x4 x5 x6 r
    rw [show n + 1 + m = n + m + 1 by omega, loop_step, bL40_16_0, qL40_16_0]
    cases (decide ((0 : Int) ≤ x3)) with
    | true =>
      cases (decide (x3 < (↑(List.length x6) : Int))) with
      | true =>
        cases (decide (x4 < (↑(List.length (List.getD x6 (Int.toNat x3) [])) : Int))) with
        | true =>
          cases (decide ((0 : Int) ≤ x4)) with
          | true =>
            cases (ok (v51 (List.getD (List.getD x6 (Int.toNat x3) []) (Int.toNat x4) []) x1)) with
            | true =>
              cases (val (v51 (List.getD (List.getD x6 (Int.toNat x3) []) (Int.toNat x4) []) x1)) with
              | true =>
                cases (decide (x3 < (↑(List.length x0) : Int))) with
                | true =>
                  cases (decide (x4 < (↑(List.length (List.getD x0 (Int.toNat x3) [])) : Int))) with
                  | true =>
                    exact ih _ _ _ _ _ _ _ r
                  | false =>
                    intro h; cases h
                | false =>
                  intro h; cases h
              | false =>
                exact ih _ _ _ _ _ _ _ r
            | false =>
              intro h; cases h
          | false =>
            intro h; cases h
        | false =>
          intro h; cases h; rfl
      | false =>
        intro h; cases h
    | false =>
      intro h; cases h
noncomputable def sL40_16_0 : TellS := fun S => dCS 0 S fun y1 y2 y3 => dSs 1 y1 fun y5 l4 => dD 22 (.list 3 (.int .i64)) y5 fun x0 => dSI 2 .i64 l4 fun x1 l6 => dSt 3 l6 fun y8 l7 => dL 3 0 y8 <| dSI 7 .i64 l7 fun x2 l9 => dSI 8 .i64 l9 fun x3 l10 => dSI 9 .i64 l10 fun x4 l11 => dE l11 <| dLo 3 y2 fun y12 l13 => dC y12 fun y14 l15 => dD 3 (.int .i64) y14 fun x5 => dC l15 fun y16 l17 => dD 26 (.list 22 (.list 3 (.int .i64))) y16 fun x6 => dE l17 <| dE l13 <| dE y3 <|  some [(ok (L40_16_0 FU x0 x1 x2 x3 x4 x5 x6), (.exit 2), { sl := [(1, .v (.sc (.d 22 (.list 3 (.int .i64)) (x0)))), (2, .v (.sc (.int .i64 (x1)))), (3, .l 3 0), (7, .v (.sc (.int .i64 ((val (L40_16_0 FU x0 x1 x2 x3 x4 x5 x6)))))), (8, .v (.sc (.int .i64 (x3)))), (18, .l 3 1)], lo := [(3, [.d 3 (.int .i64) (x5), .d 26 (.list 22 (.list 3 (.int .i64))) (x6)])], h := [], n0 := 0, w := false })]
theorem wL40_16_0 : NewTell Try.prog dOk base o71 t71 ((40, 16), sL40_16_0) := by
  refine ⟨.loop (codeAt Try.prog (tn0 40) 40 16), 2, by kernel_rfl, ?_⟩
  intro S alts e S' h10 h2
  have h1 : sL40_16_0 S = some alts := h10
  clear h10
  unfold sL40_16_0 at h1
  replace h1 := dCS_some h1; obtain ⟨y1, y2, y3, rfl, h1⟩ := h1
  replace h1 := dSs_some h1; obtain ⟨y5, l4, rfl, h1⟩ := h1
  replace h1 := dD_some h1; obtain ⟨x0, rfl, h1⟩ := h1
  replace h1 := dSI_some h1; obtain ⟨x1, l6, rfl, h1⟩ := h1
  replace h1 := dSt_some h1; obtain ⟨y8, l7, rfl, h1⟩ := h1
  replace h1 := dL_some h1; obtain ⟨rfl, h1⟩ := h1
  replace h1 := dSI_some h1; obtain ⟨x2, l9, rfl, h1⟩ := h1
  replace h1 := dSI_some h1; obtain ⟨x3, l10, rfl, h1⟩ := h1
  replace h1 := dSI_some h1; obtain ⟨x4, l11, rfl, h1⟩ := h1
  replace h1 := dE_some h1; obtain ⟨rfl, h1⟩ := h1
  replace h1 := dLo_some h1; obtain ⟨y12, l13, rfl, h1⟩ := h1
  replace h1 := dC_some h1; obtain ⟨y14, l15, rfl, h1⟩ := h1
  replace h1 := dD_some h1; obtain ⟨x5, rfl, h1⟩ := h1
  replace h1 := dC_some h1; obtain ⟨y16, l17, rfl, h1⟩ := h1
  replace h1 := dD_some h1; obtain ⟨x6, rfl, h1⟩ := h1
  replace h1 := dE_some h1; obtain ⟨rfl, h1⟩ := h1
  replace h1 := dE_some h1; obtain ⟨rfl, h1⟩ := h1
  replace h1 := dE_some h1; obtain ⟨rfl, h1⟩ := h1
  cases h1
  obtain ⟨hc0, rfl, rfl⟩ := pick_one h2
  exact ⟨FU + 40, (evPiece_loop rfl).trans (lL40_16_0 FU 40 FU _ _ _ _ _ _ _ _ (ok_val hc0))⟩
noncomputable def o72 : OrcT := o71
noncomputable def t72 : TellT := ((40, 16), sL40_16_0) :: t71
noncomputable abbrev tn72 : FuncId → TAn := mkTn base o72 t72
theorem ok72 : TnOk Try.prog tn72 (mkA base) dOk := by
  have h0 : TnOk Try.prog (mkTn base o71 t71) (mkA base) dOk := ok71
  have h1 := tn_tell h0 h0 (p := ((40, 16), sL40_16_0)) wL40_16_0
  exact h1
noncomputable def L40_0_0 : Nat → (List (List Int)) → Int → Int → Int → (List Int) → (List (List (List Int))) → Option Int
  | 0, _, _, _, _, _, _ => none
  | n + 1, x0, x1, x2, x3, x4, x5 => (cond (decide (x3 < (↑(List.length x5) : Int))) (cond (ok (L40_16_0 FU x0 x1 x2 x3 (0 : Int) x4 x5)) (L40_0_0 n (x0) (x1) (val (L40_16_0 FU x0 x1 x2 x3 (0 : Int) x4 x5)) (IntKind.wrap IntKind.i64 (x3 + (1 : Int))) (x4) (x5)) none) (some (x2)))
theorem qL40_0_0 : type_of% @L40_0_0.eq_2 := @L40_0_0.eq_2
noncomputable def xL40_0_0 (x0 : (List (List Int))) (x1 : Int) (x2 : Int) (x3 : Int) (x4 : (List Int)) (x5 : (List (List (List Int)))) : Int → Ex × CS := fun r => ((.exit 0), { sl := [(3, .l 3 0), (7, .v (.sc (.int .i64 (r)))), (11, .l 3 1)], lo := [], h := [], n0 := 0, w := false })
theorem bL40_0_0 (k : Nat) (cN : CS → Option (Ex × CS)) (cX : Ex → CS → Option (Ex × CS)) (x0 : (List (List Int))) (x1 : Int) (x2 : Int) (x3 : Int) (x4 : (List Int)) (x5 : (List (List (List Int)))) : loopBody Try.prog (mkTn base o72 t72 40) (TM.evF Try.prog (mkTn base o72 t72) dOk (k + 40)) dOk (k + 40) (codeAt Try.prog (tn0 40) 40 0) 0 0 { sl := [(1, .v (.sc (.d 22 (.list 3 (.int .i64)) (x0)))), (2, .v (.sc (.int .i64 (x1)))), (3, .l 3 0), (7, .v (.sc (.int .i64 (x2)))), (8, .v (.sc (.int .i64 (x3))))], lo := [(3, [.d 3 (.int .i64) (x4), .d 26 (.list 22 (.list 3 (.int .i64))) (x5)])], h := [], n0 := 0, w := false } cN cX = (cond (decide (x3 < (↑(List.length x5) : Int))) (cond (ok (L40_16_0 FU x0 x1 x2 x3 (0 : Int) x4 x5)) (cN { sl := [(1, .v (.sc (.d 22 (.list 3 (.int .i64)) (x0)))), (2, .v (.sc (.int .i64 (x1)))), (3, .l 3 0), (7, .v (.sc (.int .i64 (val (L40_16_0 FU x0 x1 x2 x3 (0 : Int) x4 x5))))), (8, .v (.sc (.int .i64 (IntKind.wrap IntKind.i64 (x3 + (1 : Int))))))], lo := [(3, [.d 3 (.int .i64) (x4), .d 26 (.list 22 (.list 3 (.int .i64))) (x5)])], h := [], n0 := 0, w := false }) none) (cX (.exit 0) { sl := [(3, .l 3 0), (7, .v (.sc (.int .i64 (x2)))), (11, .l 3 1)], lo := [], h := [], n0 := 0, w := false })) := by kernel_rfl
theorem lL40_0_0 (k m : Nat) : ∀ (n : Nat) (x0 : (List (List Int))) (x1 : Int) (x2 : Int) (x3 : Int) (x4 : (List Int)) (x5 : (List (List (List Int)))) (r : Int), L40_0_0 n x0 x1 x2 x3 x4 x5 = some r → loopE Try.prog (mkTn base o72 t72 40) (TM.evF Try.prog (mkTn base o72 t72) dOk (k + 40)) dOk (k + 40) (codeAt Try.prog (tn0 40) 40 0) 0 0 (n + m) { sl := [(1, .v (.sc (.d 22 (.list 3 (.int .i64)) (x0)))), (2, .v (.sc (.int .i64 (x1)))), (3, .l 3 0), (7, .v (.sc (.int .i64 (x2)))), (8, .v (.sc (.int .i64 (x3))))], lo := [(3, [.d 3 (.int .i64) (x4), .d 26 (.list 22 (.list 3 (.int .i64))) (x5)])], h := [], n0 := 0, w := false } = some (xL40_0_0 x0 x1 x2 x3 x4 x5 r) := by
  intro n
  induction n with
  | zero => intro _ _ _ _ _ _ r h; cases h
  | succ n ih =>
    intro x0 x1 x2 x3 x4 x5 r
    rw [show n + 1 + m = n + m + 1 by omega, loop_step, bL40_0_0, qL40_0_0]
    cases (decide (x3 < (↑(List.length x5) : Int))) with
    | true =>
      cases (ok (L40_16_0 FU x0 x1 x2 x3 (0 : Int) x4 x5)) with
      | true =>
        exact ih _ _ _ _ _ _ r
      | false =>
        intro h; cases h
    | false =>
      intro h; cases h; rfl
noncomputable def sL40_0_0 : TellS := fun S => dCS 0 S fun y1 y2 y3 => dSs 1 y1 fun y5 l4 => dD 22 (.list 3 (.int .i64)) y5 fun x0 => dSI 2 .i64 l4 fun x1 l6 => dSt 3 l6 fun y8 l7 => dL 3 0 y8 <| dSI 7 .i64 l7 fun x2 l9 => dSI 8 .i64 l9 fun x3 l10 => dE l10 <| dLo 3 y2 fun y11 l12 => dC y11 fun y13 l14 => dD 3 (.int .i64) y13 fun x4 => dC l14 fun y15 l16 => dD 26 (.list 22 (.list 3 (.int .i64))) y15 fun x5 => dE l16 <| dE l12 <| dE y3 <|  some [(ok (L40_0_0 FU x0 x1 x2 x3 x4 x5), (.exit 0), { sl := [(3, .l 3 0), (7, .v (.sc (.int .i64 ((val (L40_0_0 FU x0 x1 x2 x3 x4 x5)))))), (11, .l 3 1)], lo := [], h := [], n0 := 0, w := false })]
theorem wL40_0_0 : NewTell Try.prog dOk base o72 t72 ((40, 0), sL40_0_0) := by
  refine ⟨.loop (codeAt Try.prog (tn0 40) 40 0), 0, by kernel_rfl, ?_⟩
  intro S alts e S' h10 h2
  have h1 : sL40_0_0 S = some alts := h10
  clear h10
  unfold sL40_0_0 at h1
  replace h1 := dCS_some h1; obtain ⟨y1, y2, y3, rfl, h1⟩ := h1
  replace h1 := dSs_some h1; obtain ⟨y5, l4, rfl, h1⟩ := h1
  replace h1 := dD_some h1; obtain ⟨x0, rfl, h1⟩ := h1
  replace h1 := dSI_some h1; obtain ⟨x1, l6, rfl, h1⟩ := h1
  replace h1 := dSt_some h1; obtain ⟨y8, l7, rfl, h1⟩ := h1
  replace h1 := dL_some h1; obtain ⟨rfl, h1⟩ := h1
  replace h1 := dSI_some h1; obtain ⟨x2, l9, rfl, h1⟩ := h1
  replace h1 := dSI_some h1; obtain ⟨x3, l10, rfl, h1⟩ := h1
  replace h1 := dE_some h1; obtain ⟨rfl, h1⟩ := h1
  replace h1 := dLo_some h1; obtain ⟨y11, l12, rfl, h1⟩ := h1
  replace h1 := dC_some h1; obtain ⟨y13, l14, rfl, h1⟩ := h1
  replace h1 := dD_some h1; obtain ⟨x4, rfl, h1⟩ := h1
  replace h1 := dC_some h1; obtain ⟨y15, l16, rfl, h1⟩ := h1
  replace h1 := dD_some h1; obtain ⟨x5, rfl, h1⟩ := h1
  replace h1 := dE_some h1; obtain ⟨rfl, h1⟩ := h1
  replace h1 := dE_some h1; obtain ⟨rfl, h1⟩ := h1
  replace h1 := dE_some h1; obtain ⟨rfl, h1⟩ := h1
  cases h1
  obtain ⟨hc0, rfl, rfl⟩ := pick_one h2
  exact ⟨FU + 40, (evPiece_loop rfl).trans (lL40_0_0 FU 40 FU _ _ _ _ _ _ _ (ok_val hc0))⟩
noncomputable def o73 : OrcT := o72
noncomputable def t73 : TellT := ((40, 0), sL40_0_0) :: t72
noncomputable abbrev tn73 : FuncId → TAn := mkTn base o73 t73
theorem ok73 : TnOk Try.prog tn73 (mkA base) dOk := by
  have h0 : TnOk Try.prog (mkTn base o72 t72) (mkA base) dOk := ok72
  have h1 := tn_tell h0 h0 (p := ((40, 0), sL40_0_0)) wL40_0_0
  exact h1
noncomputable def v40 (x0 : (List Int)) (x1 : (List (List (List Int)))) (x2 : (List (List Int))) (x3 : Int) : Option Int := (cond (ok (L40_0_0 FU x2 x3 (0 : Int) (0 : Int) x0 x1)) (some (val (L40_0_0 FU x2 x3 (0 : Int) (0 : Int) x0 x1))) none)
theorem ev40 (x0 : (List Int)) (x1 : (List (List (List Int)))) (x2 : (List (List Int))) (x3 : Int) : fnBody Try.prog (mkTn base o73 t73 40) (TM.evF Try.prog (mkTn base o73 t73) dOk 40) dOk 40 40 [.agg [.d 3 (.int .i64) (x0), .d 26 (.list 22 (.list 3 (.int .i64))) (x1)], .sc (.d 22 (.list 3 (.int .i64)) (x2)), .sc (.int .i64 (x3))] [] = (v40 x0 x1 x2 x3).bind fun r => some ([.sc (.int .i64 (r))], []) := by
  refine Eq.trans (b := (cond (ok (L40_0_0 FU x2 x3 (0 : Int) (0 : Int) x0 x1)) (some ([.sc (.int .i64 (val (L40_0_0 FU x2 x3 (0 : Int) (0 : Int) x0 x1)))], [])) none)) (by kernel_rfl) ?_
  unfold v40
  cases (ok (L40_0_0 FU x2 x3 (0 : Int) (0 : Int) x0 x1)) with
  | true =>
    rfl
  | false =>
    rfl
noncomputable def sv40 : OrcS := fun al H => dC al fun y1 l2 => dA y1 fun y3 => dC y3 fun y4 l5 => dD 3 (.int .i64) y4 fun x0 => dC l5 fun y6 l7 => dD 26 (.list 22 (.list 3 (.int .i64))) y6 fun x1 => dE l7 <| dC l2 fun y8 l9 => dS y8 fun y10 => dD 22 (.list 3 (.int .i64)) y10 fun x2 => dC l9 fun y11 l12 => dS y11 fun y13 => dInt .i64 y13 fun x3 => dE l12 <| dE H <|  some [(ok (v40 x0 x1 x2 x3), [.sc (.int .i64 ((val (v40 x0 x1 x2 x3))))], [])]
theorem wv40 : NewOrc Try.prog dOk base o73 t73 (40, sv40) := by
  intro al H q hq0 rs H2 h2
  have hq : sv40 al H = some q := hq0
  clear hq0
  unfold sv40 at hq
  replace hq := dC_some hq; obtain ⟨y1, l2, rfl, hq⟩ := hq
  replace hq := dA_some hq; obtain ⟨y3, rfl, hq⟩ := hq
  replace hq := dC_some hq; obtain ⟨y4, l5, rfl, hq⟩ := hq
  replace hq := dD_some hq; obtain ⟨x0, rfl, hq⟩ := hq
  replace hq := dC_some hq; obtain ⟨y6, l7, rfl, hq⟩ := hq
  replace hq := dD_some hq; obtain ⟨x1, rfl, hq⟩ := hq
  replace hq := dE_some hq; obtain ⟨rfl, hq⟩ := hq
  replace hq := dC_some hq; obtain ⟨y8, l9, rfl, hq⟩ := hq
  replace hq := dS_some hq; obtain ⟨y10, rfl, hq⟩ := hq
  replace hq := dD_some hq; obtain ⟨x2, rfl, hq⟩ := hq
  replace hq := dC_some hq; obtain ⟨y11, l12, rfl, hq⟩ := hq
  replace hq := dS_some hq; obtain ⟨y13, rfl, hq⟩ := hq
  replace hq := dInt_some hq; obtain ⟨x3, rfl, hq⟩ := hq
  replace hq := dE_some hq; obtain ⟨rfl, hq⟩ := hq
  replace hq := dE_some hq; obtain ⟨rfl, hq⟩ := hq
  cases hq
  obtain ⟨hc0, rfl, rfl⟩ := pickR_one h2
  exact ⟨41, (fn_eq (by kernel_rfl)).trans ((ev40 _ _ _ _).trans (bind_of (ok_val hc0)))⟩
noncomputable def o74 : OrcT := (40, sv40) :: o73
noncomputable def t74 : TellT := t73
noncomputable abbrev tn74 : FuncId → TAn := mkTn base o74 t74
theorem ok74 : TnOk Try.prog tn74 (mkA base) dOk := by
  have h0 : TnOk Try.prog (mkTn base o73 t73) (mkA base) dOk := ok73
  have h1 := tn_orc h0 h0 (p := (40, sv40)) wv40
  exact h1
noncomputable def L18_0_0 : Nat → (List (List Int)) → Int → (List Int) → (List (List (List Int))) → Option (Bool ⊕ Unit)
  | 0, _, _, _, _ => none
  | n + 1, x0, x1, x2, x3 => (cond (decide (x1 < (↑(List.length x2) : Int))) (cond (ok (v40 x2 x3 x0 x1)) (cond (decide ((0 : Int) ≤ x1)) (cond (decide (val (v40 x2 x3 x0 x1) > IntKind.wrap IntKind.i64 ((1000000 : Int) * List.getD x2 (Int.toNat x1) (0 : Int)))) (some (.inl (false))) (L18_0_0 n (x0) (IntKind.wrap IntKind.i64 (x1 + (1 : Int))) (x2) (x3))) none) none) (some (.inr ())))
theorem qL18_0_0 : type_of% @L18_0_0.eq_2 := @L18_0_0.eq_2
noncomputable def xL18_0_0 (x0 : (List (List Int))) (x1 : Int) (x2 : (List Int)) (x3 : (List (List (List Int)))) : (Bool ⊕ Unit) → Ex × CS := fun r => match r with | .inl a0 => (.ret, { sl := [(4, .v (.sc (.bool (a0))))], lo := [], h := [], n0 := 0, w := true }) | .inr b0 => ((.exit 0), { sl := [(2, .l 2 0), (7, .l 2 0)], lo := [], h := [], n0 := 0, w := false })
theorem bL18_0_0 (k : Nat) (cN : CS → Option (Ex × CS)) (cX : Ex → CS → Option (Ex × CS)) (x0 : (List (List Int))) (x1 : Int) (x2 : (List Int)) (x3 : (List (List (List Int)))) : loopBody Try.prog (mkTn base o74 t74 18) (TM.evF Try.prog (mkTn base o74 t74) dOk (k + 40)) dOk (k + 40) (codeAt Try.prog (tn0 18) 18 0) 0 0 { sl := [(1, .v (.sc (.d 22 (.list 3 (.int .i64)) (x0)))), (2, .l 2 0), (5, .v (.sc (.int .i64 (x1))))], lo := [(2, [.d 3 (.int .i64) (x2), .d 26 (.list 22 (.list 3 (.int .i64))) (x3)])], h := [], n0 := 0, w := false } cN cX = (cond (decide (x1 < (↑(List.length x2) : Int))) (cond (ok (v40 x2 x3 x0 x1)) (cond (decide ((0 : Int) ≤ x1)) (cond (decide (x1 < (↑(List.length x2) : Int))) (cond (decide (val (v40 x2 x3 x0 x1) > IntKind.wrap IntKind.i64 ((1000000 : Int) * List.getD x2 (Int.toNat x1) (0 : Int)))) (cX .ret { sl := [(4, .v (.sc (.bool (false))))], lo := [], h := [], n0 := 0, w := true }) (cN { sl := [(1, .v (.sc (.d 22 (.list 3 (.int .i64)) (x0)))), (2, .l 2 0), (5, .v (.sc (.int .i64 (IntKind.wrap IntKind.i64 (x1 + (1 : Int))))))], lo := [(2, [.d 3 (.int .i64) (x2), .d 26 (.list 22 (.list 3 (.int .i64))) (x3)])], h := [], n0 := 0, w := false })) none) none) none) (cX (.exit 0) { sl := [(2, .l 2 0), (7, .l 2 0)], lo := [], h := [], n0 := 0, w := false })) := by kernel_rfl
theorem lL18_0_0 (k m : Nat) : ∀ (n : Nat) (x0 : (List (List Int))) (x1 : Int) (x2 : (List Int)) (x3 : (List (List (List Int)))) (r : (Bool ⊕ Unit)), L18_0_0 n x0 x1 x2 x3 = some r → loopE Try.prog (mkTn base o74 t74 18) (TM.evF Try.prog (mkTn base o74 t74) dOk (k + 40)) dOk (k + 40) (codeAt Try.prog (tn0 18) 18 0) 0 0 (n + m) { sl := [(1, .v (.sc (.d 22 (.list 3 (.int .i64)) (x0)))), (2, .l 2 0), (5, .v (.sc (.int .i64 (x1))))], lo := [(2, [.d 3 (.int .i64) (x2), .d 26 (.list 22 (.list 3 (.int .i64))) (x3)])], h := [], n0 := 0, w := false } = some (xL18_0_0 x0 x1 x2 x3 r) := by
  intro n
  induction n with
  | zero => intro _ _ _ _ r h; cases h
  | succ n ih =>
    intro x0 x1 x2 x3 r
    rw [show n + 1 + m = n + m + 1 by omega, loop_step, bL18_0_0, qL18_0_0]
    cases (decide (x1 < (↑(List.length x2) : Int))) with
    | true =>
      cases (ok (v40 x2 x3 x0 x1)) with
      | true =>
        cases (decide ((0 : Int) ≤ x1)) with
        | true =>
          cases (decide (val (v40 x2 x3 x0 x1) > IntKind.wrap IntKind.i64 ((1000000 : Int) * List.getD x2 (Int.toNat x1) (0 : Int)))) with
          | true =>
            intro h; cases h; rfl
          | false =>
            exact ih _ _ _ _ r
        | false =>
          intro h; cases h
      | false =>
        intro h; cases h
    | false =>
      intro h; cases h; rfl
noncomputable def sL18_0_0 : TellS := fun S => dCS 0 S fun y1 y2 y3 => dSs 1 y1 fun y5 l4 => dD 22 (.list 3 (.int .i64)) y5 fun x0 => dSt 2 l4 fun y7 l6 => dL 2 0 y7 <| dSI 5 .i64 l6 fun x1 l8 => dE l8 <| dLo 2 y2 fun y9 l10 => dC y9 fun y11 l12 => dD 3 (.int .i64) y11 fun x2 => dC l12 fun y13 l14 => dD 26 (.list 22 (.list 3 (.int .i64))) y13 fun x3 => dE l14 <| dE l10 <| dE y3 <|  some [(isL (L18_0_0 FU x0 x1 x2 x3), .ret, { sl := [(4, .v (.sc (.bool ((getL (L18_0_0 FU x0 x1 x2 x3))))))], lo := [], h := [], n0 := 0, w := true }), (ok (getR (L18_0_0 FU x0 x1 x2 x3)), (.exit 0), { sl := [(2, .l 2 0), (7, .l 2 0)], lo := [], h := [], n0 := 0, w := false })]
theorem wL18_0_0 : NewTell Try.prog dOk base o74 t74 ((18, 0), sL18_0_0) := by
  refine ⟨.loop (codeAt Try.prog (tn0 18) 18 0), 0, by kernel_rfl, ?_⟩
  intro S alts e S' h10 h2
  have h1 : sL18_0_0 S = some alts := h10
  clear h10
  unfold sL18_0_0 at h1
  replace h1 := dCS_some h1; obtain ⟨y1, y2, y3, rfl, h1⟩ := h1
  replace h1 := dSs_some h1; obtain ⟨y5, l4, rfl, h1⟩ := h1
  replace h1 := dD_some h1; obtain ⟨x0, rfl, h1⟩ := h1
  replace h1 := dSt_some h1; obtain ⟨y7, l6, rfl, h1⟩ := h1
  replace h1 := dL_some h1; obtain ⟨rfl, h1⟩ := h1
  replace h1 := dSI_some h1; obtain ⟨x1, l8, rfl, h1⟩ := h1
  replace h1 := dE_some h1; obtain ⟨rfl, h1⟩ := h1
  replace h1 := dLo_some h1; obtain ⟨y9, l10, rfl, h1⟩ := h1
  replace h1 := dC_some h1; obtain ⟨y11, l12, rfl, h1⟩ := h1
  replace h1 := dD_some h1; obtain ⟨x2, rfl, h1⟩ := h1
  replace h1 := dC_some h1; obtain ⟨y13, l14, rfl, h1⟩ := h1
  replace h1 := dD_some h1; obtain ⟨x3, rfl, h1⟩ := h1
  replace h1 := dE_some h1; obtain ⟨rfl, h1⟩ := h1
  replace h1 := dE_some h1; obtain ⟨rfl, h1⟩ := h1
  replace h1 := dE_some h1; obtain ⟨rfl, h1⟩ := h1
  cases h1
  rcases pick_cons h2 with ⟨hc0, rfl, rfl⟩ | h2
  · exact ⟨FU + 40, (evPiece_loop rfl).trans (lL18_0_0 FU 40 FU _ _ _ _ _ (isL_val hc0))⟩
  obtain ⟨hc1, rfl, rfl⟩ := pick_one h2
  exact ⟨FU + 40, (evPiece_loop rfl).trans (lL18_0_0 FU 40 FU _ _ _ _ _ (getR_val (ok_val hc1)))⟩
noncomputable def o75 : OrcT := o74
noncomputable def t75 : TellT := ((18, 0), sL18_0_0) :: t74
noncomputable abbrev tn75 : FuncId → TAn := mkTn base o75 t75
theorem ok75 : TnOk Try.prog tn75 (mkA base) dOk := by
  have h0 : TnOk Try.prog (mkTn base o74 t74) (mkA base) dOk := ok74
  have h1 := tn_tell h0 h0 (p := ((18, 0), sL18_0_0)) wL18_0_0
  exact h1
noncomputable def v18 (x0 : (List Int)) (x1 : (List (List (List Int)))) (x2 : (List (List Int))) : Option Bool := (cond (isL (L18_0_0 FU x2 (0 : Int) x0 x1)) (some (getL (L18_0_0 FU x2 (0 : Int) x0 x1))) (cond (ok (getR (L18_0_0 FU x2 (0 : Int) x0 x1))) (some (true)) none))
theorem ev18 (x0 : (List Int)) (x1 : (List (List (List Int)))) (x2 : (List (List Int))) : fnBody Try.prog (mkTn base o75 t75 18) (TM.evF Try.prog (mkTn base o75 t75) dOk 40) dOk 40 18 [.agg [.d 3 (.int .i64) (x0), .d 26 (.list 22 (.list 3 (.int .i64))) (x1)], .sc (.d 22 (.list 3 (.int .i64)) (x2))] [] = (v18 x0 x1 x2).bind fun r => some ([.sc (.bool (r))], []) := by
  refine Eq.trans (b := (cond (isL (L18_0_0 FU x2 (0 : Int) x0 x1)) (some ([.sc (.bool (getL (L18_0_0 FU x2 (0 : Int) x0 x1)))], [])) (cond (ok (getR (L18_0_0 FU x2 (0 : Int) x0 x1))) (some ([.sc (.bool (true))], [])) none))) (by kernel_rfl) ?_
  unfold v18
  cases (isL (L18_0_0 FU x2 (0 : Int) x0 x1)) with
  | true =>
    rfl
  | false =>
    cases (ok (getR (L18_0_0 FU x2 (0 : Int) x0 x1))) with
    | true =>
      rfl
    | false =>
      rfl
noncomputable def sv18 : OrcS := fun al H => dC al fun y1 l2 => dA y1 fun y3 => dC y3 fun y4 l5 => dD 3 (.int .i64) y4 fun x0 => dC l5 fun y6 l7 => dD 26 (.list 22 (.list 3 (.int .i64))) y6 fun x1 => dE l7 <| dC l2 fun y8 l9 => dS y8 fun y10 => dD 22 (.list 3 (.int .i64)) y10 fun x2 => dE l9 <| dE H <|  some [(ok (v18 x0 x1 x2), [.sc (.bool ((val (v18 x0 x1 x2))))], [])]
theorem wv18 : NewOrc Try.prog dOk base o75 t75 (18, sv18) := by
  intro al H q hq0 rs H2 h2
  have hq : sv18 al H = some q := hq0
  clear hq0
  unfold sv18 at hq
  replace hq := dC_some hq; obtain ⟨y1, l2, rfl, hq⟩ := hq
  replace hq := dA_some hq; obtain ⟨y3, rfl, hq⟩ := hq
  replace hq := dC_some hq; obtain ⟨y4, l5, rfl, hq⟩ := hq
  replace hq := dD_some hq; obtain ⟨x0, rfl, hq⟩ := hq
  replace hq := dC_some hq; obtain ⟨y6, l7, rfl, hq⟩ := hq
  replace hq := dD_some hq; obtain ⟨x1, rfl, hq⟩ := hq
  replace hq := dE_some hq; obtain ⟨rfl, hq⟩ := hq
  replace hq := dC_some hq; obtain ⟨y8, l9, rfl, hq⟩ := hq
  replace hq := dS_some hq; obtain ⟨y10, rfl, hq⟩ := hq
  replace hq := dD_some hq; obtain ⟨x2, rfl, hq⟩ := hq
  replace hq := dE_some hq; obtain ⟨rfl, hq⟩ := hq
  replace hq := dE_some hq; obtain ⟨rfl, hq⟩ := hq
  cases hq
  obtain ⟨hc0, rfl, rfl⟩ := pickR_one h2
  exact ⟨41, (fn_eq (by kernel_rfl)).trans ((ev18 _ _ _).trans (bind_of (ok_val hc0)))⟩
noncomputable def o76 : OrcT := (18, sv18) :: o75
noncomputable def t76 : TellT := t75
noncomputable abbrev tn76 : FuncId → TAn := mkTn base o76 t76
theorem ok76 : TnOk Try.prog tn76 (mkA base) dOk := by
  have h0 : TnOk Try.prog (mkTn base o75 t75) (mkA base) dOk := ok75
  have h1 := tn_orc h0 h0 (p := (18, sv18)) wv18
  exact h1
noncomputable def L19_0_0 : Nat → (List Int) → Int → Int → Option Int
  | 0, _, _, _ => none
  | n + 1, x0, x1, x2 => (cond (decide (x2 < (↑(List.length x0) : Int))) (cond (decide ((0 : Int) ≤ x2)) (L19_0_0 n (x0) (IntKind.wrap IntKind.i64 (x1 + List.getD x0 (Int.toNat x2) (0 : Int))) (IntKind.wrap IntKind.i64 (x2 + (1 : Int)))) none) (some (x1)))
theorem qL19_0_0 : type_of% @L19_0_0.eq_2 := @L19_0_0.eq_2
noncomputable def xL19_0_0 (x0 : (List Int)) (x1 : Int) (x2 : Int) : Int → Ex × CS := fun r => ((.exit 0), { sl := [(3, .v (.sc (.int .i64 (r))))], lo := [], h := [], n0 := 0, w := false })
theorem bL19_0_0 (k : Nat) (cN : CS → Option (Ex × CS)) (cX : Ex → CS → Option (Ex × CS)) (x0 : (List Int)) (x1 : Int) (x2 : Int) : loopBody Try.prog (mkTn base o76 t76 19) (TM.evF Try.prog (mkTn base o76 t76) dOk (k + 40)) dOk (k + 40) (codeAt Try.prog (tn0 19) 19 0) 0 0 { sl := [(0, .v (.sc (.d 3 (.int .i64) (x0)))), (3, .v (.sc (.int .i64 (x1)))), (4, .v (.sc (.int .i64 (x2))))], lo := [], h := [], n0 := 0, w := false } cN cX = (cond (decide (x2 < (↑(List.length x0) : Int))) (cond (decide ((0 : Int) ≤ x2)) (cond (decide (x2 < (↑(List.length x0) : Int))) (cN { sl := [(0, .v (.sc (.d 3 (.int .i64) (x0)))), (3, .v (.sc (.int .i64 (IntKind.wrap IntKind.i64 (x1 + List.getD x0 (Int.toNat x2) (0 : Int)))))), (4, .v (.sc (.int .i64 (IntKind.wrap IntKind.i64 (x2 + (1 : Int))))))], lo := [], h := [], n0 := 0, w := false }) none) none) (cX (.exit 0) { sl := [(3, .v (.sc (.int .i64 (x1))))], lo := [], h := [], n0 := 0, w := false })) := by kernel_rfl
theorem lL19_0_0 (k m : Nat) : ∀ (n : Nat) (x0 : (List Int)) (x1 : Int) (x2 : Int) (r : Int), L19_0_0 n x0 x1 x2 = some r → loopE Try.prog (mkTn base o76 t76 19) (TM.evF Try.prog (mkTn base o76 t76) dOk (k + 40)) dOk (k + 40) (codeAt Try.prog (tn0 19) 19 0) 0 0 (n + m) { sl := [(0, .v (.sc (.d 3 (.int .i64) (x0)))), (3, .v (.sc (.int .i64 (x1)))), (4, .v (.sc (.int .i64 (x2))))], lo := [], h := [], n0 := 0, w := false } = some (xL19_0_0 x0 x1 x2 r) := by
  intro n
  induction n with
  | zero => intro _ _ _ r h; cases h
  | succ n ih =>
    intro x0 x1 x2 r
    rw [show n + 1 + m = n + m + 1 by omega, loop_step, bL19_0_0, qL19_0_0]
    cases (decide (x2 < (↑(List.length x0) : Int))) with
    | true =>
      cases (decide ((0 : Int) ≤ x2)) with
      | true =>
        exact ih _ _ _ r
      | false =>
        intro h; cases h
    | false =>
      intro h; cases h; rfl
noncomputable def sL19_0_0 : TellS := fun S => dCS 0 S fun y1 y2 y3 => dSs 0 y1 fun y5 l4 => dD 3 (.int .i64) y5 fun x0 => dSI 3 .i64 l4 fun x1 l6 => dSI 4 .i64 l6 fun x2 l7 => dE l7 <| dE y2 <| dE y3 <|  some [(ok (L19_0_0 FU x0 x1 x2), (.exit 0), { sl := [(3, .v (.sc (.int .i64 ((val (L19_0_0 FU x0 x1 x2))))))], lo := [], h := [], n0 := 0, w := false })]
theorem wL19_0_0 : NewTell Try.prog dOk base o76 t76 ((19, 0), sL19_0_0) := by
  refine ⟨.loop (codeAt Try.prog (tn0 19) 19 0), 0, by kernel_rfl, ?_⟩
  intro S alts e S' h10 h2
  have h1 : sL19_0_0 S = some alts := h10
  clear h10
  unfold sL19_0_0 at h1
  replace h1 := dCS_some h1; obtain ⟨y1, y2, y3, rfl, h1⟩ := h1
  replace h1 := dSs_some h1; obtain ⟨y5, l4, rfl, h1⟩ := h1
  replace h1 := dD_some h1; obtain ⟨x0, rfl, h1⟩ := h1
  replace h1 := dSI_some h1; obtain ⟨x1, l6, rfl, h1⟩ := h1
  replace h1 := dSI_some h1; obtain ⟨x2, l7, rfl, h1⟩ := h1
  replace h1 := dE_some h1; obtain ⟨rfl, h1⟩ := h1
  replace h1 := dE_some h1; obtain ⟨rfl, h1⟩ := h1
  replace h1 := dE_some h1; obtain ⟨rfl, h1⟩ := h1
  cases h1
  obtain ⟨hc0, rfl, rfl⟩ := pick_one h2
  exact ⟨FU + 40, (evPiece_loop rfl).trans (lL19_0_0 FU 40 FU _ _ _ _ (ok_val hc0))⟩
noncomputable def o77 : OrcT := o76
noncomputable def t77 : TellT := ((19, 0), sL19_0_0) :: t76
noncomputable abbrev tn77 : FuncId → TAn := mkTn base o77 t77
theorem ok77 : TnOk Try.prog tn77 (mkA base) dOk := by
  have h0 : TnOk Try.prog (mkTn base o76 t76) (mkA base) dOk := ok76
  have h1 := tn_tell h0 h0 (p := ((19, 0), sL19_0_0)) wL19_0_0
  exact h1
noncomputable def v19 (x0 : (List Int)) : Option Int := (cond (ok (L19_0_0 FU x0 (0 : Int) (0 : Int))) (some (val (L19_0_0 FU x0 (0 : Int) (0 : Int)))) none)
theorem ev19 (x0 : (List Int)) : fnBody Try.prog (mkTn base o77 t77 19) (TM.evF Try.prog (mkTn base o77 t77) dOk 40) dOk 40 19 [.sc (.d 3 (.int .i64) (x0))] [] = (v19 x0).bind fun r => some ([.sc (.int .i64 (r))], []) := by
  refine Eq.trans (b := (cond (ok (L19_0_0 FU x0 (0 : Int) (0 : Int))) (some ([.sc (.int .i64 (val (L19_0_0 FU x0 (0 : Int) (0 : Int))))], [])) none)) (by kernel_rfl) ?_
  unfold v19
  cases (ok (L19_0_0 FU x0 (0 : Int) (0 : Int))) with
  | true =>
    rfl
  | false =>
    rfl
noncomputable def sv19 : OrcS := fun al H => dC al fun y1 l2 => dS y1 fun y3 => dD 3 (.int .i64) y3 fun x0 => dE l2 <| dE H <|  some [(ok (v19 x0), [.sc (.int .i64 ((val (v19 x0))))], [])]
theorem wv19 : NewOrc Try.prog dOk base o77 t77 (19, sv19) := by
  intro al H q hq0 rs H2 h2
  have hq : sv19 al H = some q := hq0
  clear hq0
  unfold sv19 at hq
  replace hq := dC_some hq; obtain ⟨y1, l2, rfl, hq⟩ := hq
  replace hq := dS_some hq; obtain ⟨y3, rfl, hq⟩ := hq
  replace hq := dD_some hq; obtain ⟨x0, rfl, hq⟩ := hq
  replace hq := dE_some hq; obtain ⟨rfl, hq⟩ := hq
  replace hq := dE_some hq; obtain ⟨rfl, hq⟩ := hq
  cases hq
  obtain ⟨hc0, rfl, rfl⟩ := pickR_one h2
  exact ⟨41, (fn_eq (by kernel_rfl)).trans ((ev19 _).trans (bind_of (ok_val hc0)))⟩
noncomputable def o78 : OrcT := (19, sv19) :: o77
noncomputable def t78 : TellT := t77
noncomputable abbrev tn78 : FuncId → TAn := mkTn base o78 t78
theorem ok78 : TnOk Try.prog tn78 (mkA base) dOk := by
  have h0 : TnOk Try.prog (mkTn base o77 t77) (mkA base) dOk := ok77
  have h1 := tn_orc h0 h0 (p := (19, sv19)) wv19
  exact h1
noncomputable def L5_92_0 (x0 : (List (List Int))) (x1 : Bool) (x2 : Int) (x3 : Int) (x4 : Int) (x5 : Int) (x6 : Int) (x7 : (List Int)) (x8 : (List (List (List Int)))) (x9 : (List (List Int))) (x10 : (List Int)) (x11 : Int) : Option Int := (cond (decide ((0 : Int) ≤ x3)) (cond (decide (x3 < (↑(List.length x0) : Int))) (cond (ok (v19 (List.getD x0 (Int.toNat x3) []))) (cond (decide (x4 ≠ (0 : Int))) (some (IntKind.wrap IntKind.i64 (x2 + IntKind.wrap IntKind.i64 (Int.tdiv (IntKind.wrap IntKind.i64 ((1000000 : Int) * val (v19 (List.getD x0 (Int.toNat x3) [])))) x4)))) none) none) none) none)
noncomputable def xL5_92_0 (x0 : (List (List Int))) (x1 : Bool) (x2 : Int) (x3 : Int) (x4 : Int) (x5 : Int) (x6 : Int) (x7 : (List Int)) (x8 : (List (List (List Int)))) (x9 : (List (List Int))) (x10 : (List Int)) (x11 : Int) : Int → Ex × CS := fun r => (.normal, { sl := [(2, .v (.sc (.d 22 (.list 3 (.int .i64)) (x0)))), (3, .l 3 0), (4, .l 4 0), (7, .v (.sc (.bool (x1)))), (8, .v (.sc (.int .i64 (r)))), (57, .v (.sc (.int .i64 (x5)))), (58, .v (.sc (.int .i64 (x6))))], lo := [(3, [.d 3 (.int .i64) (x7), .d 26 (.list 22 (.list 3 (.int .i64))) (x8)]), (4, [.d 22 (.list 3 (.int .i64)) (x9), .d 3 (.int .i64) (x10), .int .i64 (x11)])], h := [], n0 := 0, w := false })
theorem bL5_92_0 (k : Nat) (cX : Ex → CS → Option (Ex × CS)) (x0 : (List (List Int))) (x1 : Bool) (x2 : Int) (x3 : Int) (x4 : Int) (x5 : Int) (x6 : Int) (x7 : (List Int)) (x8 : (List (List (List Int)))) (x9 : (List (List Int))) (x10 : (List Int)) (x11 : Int) : pieceBody Try.prog (mkTn base o78 t78 5) (TM.evF Try.prog (mkTn base o78 t78) dOk (k + 40)) dOk (k + 40) (codeAt Try.prog (tn0 5) 5 92) 1 92 { sl := [(2, .v (.sc (.d 22 (.list 3 (.int .i64)) (x0)))), (3, .l 3 0), (4, .l 4 0), (7, .v (.sc (.bool (x1)))), (8, .v (.sc (.int .i64 (x2)))), (9, .v (.sc (.int .i64 (x3)))), (10, .v (.sc (.int .i64 (x4)))), (57, .v (.sc (.int .i64 (x5)))), (58, .v (.sc (.int .i64 (x6))))], lo := [(3, [.d 3 (.int .i64) (x7), .d 26 (.list 22 (.list 3 (.int .i64))) (x8)]), (4, [.d 22 (.list 3 (.int .i64)) (x9), .d 3 (.int .i64) (x10), .int .i64 (x11)])], h := [], n0 := 0, w := false } cX = (cond (decide ((0 : Int) ≤ x3)) (cond (decide (x3 < (↑(List.length x0) : Int))) (cond (ok (v19 (List.getD x0 (Int.toNat x3) []))) (cond (decide (x4 ≠ (0 : Int))) (cX .normal { sl := [(2, .v (.sc (.d 22 (.list 3 (.int .i64)) (x0)))), (3, .l 3 0), (4, .l 4 0), (7, .v (.sc (.bool (x1)))), (8, .v (.sc (.int .i64 (IntKind.wrap IntKind.i64 (x2 + IntKind.wrap IntKind.i64 (Int.tdiv (IntKind.wrap IntKind.i64 ((1000000 : Int) * val (v19 (List.getD x0 (Int.toNat x3) [])))) x4)))))), (57, .v (.sc (.int .i64 (x5)))), (58, .v (.sc (.int .i64 (x6))))], lo := [(3, [.d 3 (.int .i64) (x7), .d 26 (.list 22 (.list 3 (.int .i64))) (x8)]), (4, [.d 22 (.list 3 (.int .i64)) (x9), .d 3 (.int .i64) (x10), .int .i64 (x11)])], h := [], n0 := 0, w := false }) none) none) none) none) := by kernel_rfl
theorem lL5_92_0 (k : Nat) (x0 : (List (List Int))) (x1 : Bool) (x2 : Int) (x3 : Int) (x4 : Int) (x5 : Int) (x6 : Int) (x7 : (List Int)) (x8 : (List (List (List Int)))) (x9 : (List (List Int))) (x10 : (List Int)) (x11 : Int) (r : Int) : L5_92_0 x0 x1 x2 x3 x4 x5 x6 x7 x8 x9 x10 x11 = some r → pieceBody Try.prog (mkTn base o78 t78 5) (TM.evF Try.prog (mkTn base o78 t78) dOk (k + 40)) dOk (k + 40) (codeAt Try.prog (tn0 5) 5 92) 1 92 { sl := [(2, .v (.sc (.d 22 (.list 3 (.int .i64)) (x0)))), (3, .l 3 0), (4, .l 4 0), (7, .v (.sc (.bool (x1)))), (8, .v (.sc (.int .i64 (x2)))), (9, .v (.sc (.int .i64 (x3)))), (10, .v (.sc (.int .i64 (x4)))), (57, .v (.sc (.int .i64 (x5)))), (58, .v (.sc (.int .i64 (x6))))], lo := [(3, [.d 3 (.int .i64) (x7), .d 26 (.list 22 (.list 3 (.int .i64))) (x8)]), (4, [.d 22 (.list 3 (.int .i64)) (x9), .d 3 (.int .i64) (x10), .int .i64 (x11)])], h := [], n0 := 0, w := false } (fun e s => some (e, s)) = some (xL5_92_0 x0 x1 x2 x3 x4 x5 x6 x7 x8 x9 x10 x11 r) := by
  rw [bL5_92_0]
  unfold L5_92_0
  cases (decide ((0 : Int) ≤ x3)) with
  | true =>
    cases (decide (x3 < (↑(List.length x0) : Int))) with
    | true =>
      cases (ok (v19 (List.getD x0 (Int.toNat x3) []))) with
      | true =>
        cases (decide (x4 ≠ (0 : Int))) with
        | true =>
          intro h; cases h; rfl
        | false =>
          intro h; cases h
      | false =>
        intro h; cases h
    | false =>
      intro h; cases h
  | false =>
    intro h; cases h
noncomputable def sL5_92_0 : TellS := fun S => dCS 0 S fun y1 y2 y3 => dSs 2 y1 fun y5 l4 => dD 22 (.list 3 (.int .i64)) y5 fun x0 => dSt 3 l4 fun y7 l6 => dL 3 0 y7 <| dSt 4 l6 fun y9 l8 => dL 4 0 y9 <| dSs 7 l8 fun y11 l10 => dBool y11 fun x1 => dSI 8 .i64 l10 fun x2 l12 => dSI 9 .i64 l12 fun x3 l13 => dSI 10 .i64 l13 fun x4 l14 => dSI 57 .i64 l14 fun x5 l15 => dSI 58 .i64 l15 fun x6 l16 => dE l16 <| dLo 3 y2 fun y17 l18 => dC y17 fun y19 l20 => dD 3 (.int .i64) y19 fun x7 => dC l20 fun y21 l22 => dD 26 (.list 22 (.list 3 (.int .i64))) y21 fun x8 => dE l22 <| dLo 4 l18 fun y23 l24 => dC y23 fun y25 l26 => dD 22 (.list 3 (.int .i64)) y25 fun x9 => dC l26 fun y27 l28 => dD 3 (.int .i64) y27 fun x10 => dCI .i64 l28 fun x11 l29 => dE l29 <| dE l24 <| dE y3 <|  some [(ok (L5_92_0 x0 x1 x2 x3 x4 x5 x6 x7 x8 x9 x10 x11), .normal, { sl := [(2, .v (.sc (.d 22 (.list 3 (.int .i64)) (x0)))), (3, .l 3 0), (4, .l 4 0), (7, .v (.sc (.bool (x1)))), (8, .v (.sc (.int .i64 ((val (L5_92_0 x0 x1 x2 x3 x4 x5 x6 x7 x8 x9 x10 x11)))))), (57, .v (.sc (.int .i64 (x5)))), (58, .v (.sc (.int .i64 (x6))))], lo := [(3, [.d 3 (.int .i64) (x7), .d 26 (.list 22 (.list 3 (.int .i64))) (x8)]), (4, [.d 22 (.list 3 (.int .i64)) (x9), .d 3 (.int .i64) (x10), .int .i64 (x11)])], h := [], n0 := 0, w := false })]
theorem wL5_92_0 : NewTell Try.prog dOk base o78 t78 ((5, 92), sL5_92_0) := by
  refine ⟨(codeAt Try.prog (tn0 5) 5 92), 1, by kernel_rfl, ?_⟩
  intro S alts e S' h10 h2
  have h1 : sL5_92_0 S = some alts := h10
  clear h10
  unfold sL5_92_0 at h1
  replace h1 := dCS_some h1; obtain ⟨y1, y2, y3, rfl, h1⟩ := h1
  replace h1 := dSs_some h1; obtain ⟨y5, l4, rfl, h1⟩ := h1
  replace h1 := dD_some h1; obtain ⟨x0, rfl, h1⟩ := h1
  replace h1 := dSt_some h1; obtain ⟨y7, l6, rfl, h1⟩ := h1
  replace h1 := dL_some h1; obtain ⟨rfl, h1⟩ := h1
  replace h1 := dSt_some h1; obtain ⟨y9, l8, rfl, h1⟩ := h1
  replace h1 := dL_some h1; obtain ⟨rfl, h1⟩ := h1
  replace h1 := dSs_some h1; obtain ⟨y11, l10, rfl, h1⟩ := h1
  replace h1 := dBool_some h1; obtain ⟨x1, rfl, h1⟩ := h1
  replace h1 := dSI_some h1; obtain ⟨x2, l12, rfl, h1⟩ := h1
  replace h1 := dSI_some h1; obtain ⟨x3, l13, rfl, h1⟩ := h1
  replace h1 := dSI_some h1; obtain ⟨x4, l14, rfl, h1⟩ := h1
  replace h1 := dSI_some h1; obtain ⟨x5, l15, rfl, h1⟩ := h1
  replace h1 := dSI_some h1; obtain ⟨x6, l16, rfl, h1⟩ := h1
  replace h1 := dE_some h1; obtain ⟨rfl, h1⟩ := h1
  replace h1 := dLo_some h1; obtain ⟨y17, l18, rfl, h1⟩ := h1
  replace h1 := dC_some h1; obtain ⟨y19, l20, rfl, h1⟩ := h1
  replace h1 := dD_some h1; obtain ⟨x7, rfl, h1⟩ := h1
  replace h1 := dC_some h1; obtain ⟨y21, l22, rfl, h1⟩ := h1
  replace h1 := dD_some h1; obtain ⟨x8, rfl, h1⟩ := h1
  replace h1 := dE_some h1; obtain ⟨rfl, h1⟩ := h1
  replace h1 := dLo_some h1; obtain ⟨y23, l24, rfl, h1⟩ := h1
  replace h1 := dC_some h1; obtain ⟨y25, l26, rfl, h1⟩ := h1
  replace h1 := dD_some h1; obtain ⟨x9, rfl, h1⟩ := h1
  replace h1 := dC_some h1; obtain ⟨y27, l28, rfl, h1⟩ := h1
  replace h1 := dD_some h1; obtain ⟨x10, rfl, h1⟩ := h1
  replace h1 := dCI_some h1; obtain ⟨x11, l29, rfl, h1⟩ := h1
  replace h1 := dE_some h1; obtain ⟨rfl, h1⟩ := h1
  replace h1 := dE_some h1; obtain ⟨rfl, h1⟩ := h1
  replace h1 := dE_some h1; obtain ⟨rfl, h1⟩ := h1
  cases h1
  obtain ⟨hc0, rfl, rfl⟩ := pick_one h2
  exact ⟨0 + 40, (evPiece_code rfl).trans (lL5_92_0 0 _ _ _ _ _ _ _ _ _ _ _ _ _ (ok_val hc0))⟩
noncomputable def o79 : OrcT := o78
noncomputable def t79 : TellT := ((5, 92), sL5_92_0) :: t78
noncomputable abbrev tn79 : FuncId → TAn := mkTn base o79 t79
theorem ok79 : TnOk Try.prog tn79 (mkA base) dOk := by
  have h0 : TnOk Try.prog (mkTn base o78 t78) (mkA base) dOk := ok78
  have h1 := tn_tell h0 h0 (p := ((5, 92), sL5_92_0)) wL5_92_0
  exact h1
noncomputable def L5_68_0 (x0 : (List (List Int))) (x1 : Bool) (x2 : Int) (x3 : Int) (x4 : Int) (x5 : Int) (x6 : (List Int)) (x7 : (List (List (List Int)))) (x8 : (List (List Int))) (x9 : (List Int)) (x10 : Int) : Option (Bool ⊕ Int) := (cond (decide ((0 : Int) ≤ x3)) (cond (decide (x3 < (↑(List.length x8) : Int))) (cond (ok (v19 (List.getD x8 (Int.toNat x3) []))) (cond (decide (val (v19 (List.getD x8 (Int.toNat x3) [])) < (1 : Int))) (some (.inl (false))) (cond (ok (L5_92_0 x0 x1 x2 x3 (val (v19 (List.getD x8 (Int.toNat x3) []))) x4 x5 x6 x7 x8 x9 x10)) (some (.inr (val (L5_92_0 x0 x1 x2 x3 (val (v19 (List.getD x8 (Int.toNat x3) []))) x4 x5 x6 x7 x8 x9 x10)))) none)) none) none) none)
noncomputable def xL5_68_0 (x0 : (List (List Int))) (x1 : Bool) (x2 : Int) (x3 : Int) (x4 : Int) (x5 : Int) (x6 : (List Int)) (x7 : (List (List (List Int)))) (x8 : (List (List Int))) (x9 : (List Int)) (x10 : Int) : (Bool ⊕ Int) → Ex × CS := fun r => match r with | .inl a0 => (.ret, { sl := [(6, .v (.sc (.bool (a0))))], lo := [], h := [], n0 := 0, w := true }) | .inr b0 => (.normal, { sl := [(2, .v (.sc (.d 22 (.list 3 (.int .i64)) (x0)))), (3, .l 3 0), (4, .l 4 0), (7, .v (.sc (.bool (x1)))), (8, .v (.sc (.int .i64 (b0)))), (57, .v (.sc (.int .i64 (x4)))), (58, .v (.sc (.int .i64 (x5))))], lo := [(3, [.d 3 (.int .i64) (x6), .d 26 (.list 22 (.list 3 (.int .i64))) (x7)]), (4, [.d 22 (.list 3 (.int .i64)) (x8), .d 3 (.int .i64) (x9), .int .i64 (x10)])], h := [], n0 := 0, w := false })
theorem bL5_68_0 (k : Nat) (cX : Ex → CS → Option (Ex × CS)) (x0 : (List (List Int))) (x1 : Bool) (x2 : Int) (x3 : Int) (x4 : Int) (x5 : Int) (x6 : (List Int)) (x7 : (List (List (List Int)))) (x8 : (List (List Int))) (x9 : (List Int)) (x10 : Int) : pieceBody Try.prog (mkTn base o79 t79 5) (TM.evF Try.prog (mkTn base o79 t79) dOk (k + 40)) dOk (k + 40) (codeAt Try.prog (tn0 5) 5 68) 1 68 { sl := [(2, .v (.sc (.d 22 (.list 3 (.int .i64)) (x0)))), (3, .l 3 0), (4, .l 4 0), (7, .v (.sc (.bool (x1)))), (8, .v (.sc (.int .i64 (x2)))), (9, .v (.sc (.int .i64 (x3)))), (57, .v (.sc (.int .i64 (x4)))), (58, .v (.sc (.int .i64 (x5))))], lo := [(3, [.d 3 (.int .i64) (x6), .d 26 (.list 22 (.list 3 (.int .i64))) (x7)]), (4, [.d 22 (.list 3 (.int .i64)) (x8), .d 3 (.int .i64) (x9), .int .i64 (x10)])], h := [], n0 := 0, w := false } cX = (cond (decide ((0 : Int) ≤ x3)) (cond (decide (x3 < (↑(List.length x8) : Int))) (cond (ok (v19 (List.getD x8 (Int.toNat x3) []))) (cond (decide (val (v19 (List.getD x8 (Int.toNat x3) [])) < (1 : Int))) (cX .ret { sl := [(6, .v (.sc (.bool (false))))], lo := [], h := [], n0 := 0, w := true }) (cond (ok (L5_92_0 x0 x1 x2 x3 (val (v19 (List.getD x8 (Int.toNat x3) []))) x4 x5 x6 x7 x8 x9 x10)) (cX .normal { sl := [(2, .v (.sc (.d 22 (.list 3 (.int .i64)) (x0)))), (3, .l 3 0), (4, .l 4 0), (7, .v (.sc (.bool (x1)))), (8, .v (.sc (.int .i64 (val (L5_92_0 x0 x1 x2 x3 (val (v19 (List.getD x8 (Int.toNat x3) []))) x4 x5 x6 x7 x8 x9 x10))))), (57, .v (.sc (.int .i64 (x4)))), (58, .v (.sc (.int .i64 (x5))))], lo := [(3, [.d 3 (.int .i64) (x6), .d 26 (.list 22 (.list 3 (.int .i64))) (x7)]), (4, [.d 22 (.list 3 (.int .i64)) (x8), .d 3 (.int .i64) (x9), .int .i64 (x10)])], h := [], n0 := 0, w := false }) none)) none) none) none) := by kernel_rfl
theorem lL5_68_0 (k : Nat) (x0 : (List (List Int))) (x1 : Bool) (x2 : Int) (x3 : Int) (x4 : Int) (x5 : Int) (x6 : (List Int)) (x7 : (List (List (List Int)))) (x8 : (List (List Int))) (x9 : (List Int)) (x10 : Int) (r : (Bool ⊕ Int)) : L5_68_0 x0 x1 x2 x3 x4 x5 x6 x7 x8 x9 x10 = some r → pieceBody Try.prog (mkTn base o79 t79 5) (TM.evF Try.prog (mkTn base o79 t79) dOk (k + 40)) dOk (k + 40) (codeAt Try.prog (tn0 5) 5 68) 1 68 { sl := [(2, .v (.sc (.d 22 (.list 3 (.int .i64)) (x0)))), (3, .l 3 0), (4, .l 4 0), (7, .v (.sc (.bool (x1)))), (8, .v (.sc (.int .i64 (x2)))), (9, .v (.sc (.int .i64 (x3)))), (57, .v (.sc (.int .i64 (x4)))), (58, .v (.sc (.int .i64 (x5))))], lo := [(3, [.d 3 (.int .i64) (x6), .d 26 (.list 22 (.list 3 (.int .i64))) (x7)]), (4, [.d 22 (.list 3 (.int .i64)) (x8), .d 3 (.int .i64) (x9), .int .i64 (x10)])], h := [], n0 := 0, w := false } (fun e s => some (e, s)) = some (xL5_68_0 x0 x1 x2 x3 x4 x5 x6 x7 x8 x9 x10 r) := by
  rw [bL5_68_0]
  unfold L5_68_0
  cases (decide ((0 : Int) ≤ x3)) with
  | true =>
    cases (decide (x3 < (↑(List.length x8) : Int))) with
    | true =>
      cases (ok (v19 (List.getD x8 (Int.toNat x3) []))) with
      | true =>
        cases (decide (val (v19 (List.getD x8 (Int.toNat x3) [])) < (1 : Int))) with
        | true =>
          intro h; cases h; rfl
        | false =>
          cases (ok (L5_92_0 x0 x1 x2 x3 (val (v19 (List.getD x8 (Int.toNat x3) []))) x4 x5 x6 x7 x8 x9 x10)) with
          | true =>
            intro h; cases h; rfl
          | false =>
            intro h; cases h
      | false =>
        intro h; cases h
    | false =>
      intro h; cases h
  | false =>
    intro h; cases h
noncomputable def sL5_68_0 : TellS := fun S => dCS 0 S fun y1 y2 y3 => dSs 2 y1 fun y5 l4 => dD 22 (.list 3 (.int .i64)) y5 fun x0 => dSt 3 l4 fun y7 l6 => dL 3 0 y7 <| dSt 4 l6 fun y9 l8 => dL 4 0 y9 <| dSs 7 l8 fun y11 l10 => dBool y11 fun x1 => dSI 8 .i64 l10 fun x2 l12 => dSI 9 .i64 l12 fun x3 l13 => dSI 57 .i64 l13 fun x4 l14 => dSI 58 .i64 l14 fun x5 l15 => dE l15 <| dLo 3 y2 fun y16 l17 => dC y16 fun y18 l19 => dD 3 (.int .i64) y18 fun x6 => dC l19 fun y20 l21 => dD 26 (.list 22 (.list 3 (.int .i64))) y20 fun x7 => dE l21 <| dLo 4 l17 fun y22 l23 => dC y22 fun y24 l25 => dD 22 (.list 3 (.int .i64)) y24 fun x8 => dC l25 fun y26 l27 => dD 3 (.int .i64) y26 fun x9 => dCI .i64 l27 fun x10 l28 => dE l28 <| dE l23 <| dE y3 <|  some [(isL (L5_68_0 x0 x1 x2 x3 x4 x5 x6 x7 x8 x9 x10), .ret, { sl := [(6, .v (.sc (.bool ((getL (L5_68_0 x0 x1 x2 x3 x4 x5 x6 x7 x8 x9 x10))))))], lo := [], h := [], n0 := 0, w := true }), (ok (getR (L5_68_0 x0 x1 x2 x3 x4 x5 x6 x7 x8 x9 x10)), .normal, { sl := [(2, .v (.sc (.d 22 (.list 3 (.int .i64)) (x0)))), (3, .l 3 0), (4, .l 4 0), (7, .v (.sc (.bool (x1)))), (8, .v (.sc (.int .i64 ((val (getR (L5_68_0 x0 x1 x2 x3 x4 x5 x6 x7 x8 x9 x10))))))), (57, .v (.sc (.int .i64 (x4)))), (58, .v (.sc (.int .i64 (x5))))], lo := [(3, [.d 3 (.int .i64) (x6), .d 26 (.list 22 (.list 3 (.int .i64))) (x7)]), (4, [.d 22 (.list 3 (.int .i64)) (x8), .d 3 (.int .i64) (x9), .int .i64 (x10)])], h := [], n0 := 0, w := false })]
theorem wL5_68_0 : NewTell Try.prog dOk base o79 t79 ((5, 68), sL5_68_0) := by
  refine ⟨(codeAt Try.prog (tn0 5) 5 68), 1, by kernel_rfl, ?_⟩
  intro S alts e S' h10 h2
  have h1 : sL5_68_0 S = some alts := h10
  clear h10
  unfold sL5_68_0 at h1
  replace h1 := dCS_some h1; obtain ⟨y1, y2, y3, rfl, h1⟩ := h1
  replace h1 := dSs_some h1; obtain ⟨y5, l4, rfl, h1⟩ := h1
  replace h1 := dD_some h1; obtain ⟨x0, rfl, h1⟩ := h1
  replace h1 := dSt_some h1; obtain ⟨y7, l6, rfl, h1⟩ := h1
  replace h1 := dL_some h1; obtain ⟨rfl, h1⟩ := h1
  replace h1 := dSt_some h1; obtain ⟨y9, l8, rfl, h1⟩ := h1
  replace h1 := dL_some h1; obtain ⟨rfl, h1⟩ := h1
  replace h1 := dSs_some h1; obtain ⟨y11, l10, rfl, h1⟩ := h1
  replace h1 := dBool_some h1; obtain ⟨x1, rfl, h1⟩ := h1
  replace h1 := dSI_some h1; obtain ⟨x2, l12, rfl, h1⟩ := h1
  replace h1 := dSI_some h1; obtain ⟨x3, l13, rfl, h1⟩ := h1
  replace h1 := dSI_some h1; obtain ⟨x4, l14, rfl, h1⟩ := h1
  replace h1 := dSI_some h1; obtain ⟨x5, l15, rfl, h1⟩ := h1
  replace h1 := dE_some h1; obtain ⟨rfl, h1⟩ := h1
  replace h1 := dLo_some h1; obtain ⟨y16, l17, rfl, h1⟩ := h1
  replace h1 := dC_some h1; obtain ⟨y18, l19, rfl, h1⟩ := h1
  replace h1 := dD_some h1; obtain ⟨x6, rfl, h1⟩ := h1
  replace h1 := dC_some h1; obtain ⟨y20, l21, rfl, h1⟩ := h1
  replace h1 := dD_some h1; obtain ⟨x7, rfl, h1⟩ := h1
  replace h1 := dE_some h1; obtain ⟨rfl, h1⟩ := h1
  replace h1 := dLo_some h1; obtain ⟨y22, l23, rfl, h1⟩ := h1
  replace h1 := dC_some h1; obtain ⟨y24, l25, rfl, h1⟩ := h1
  replace h1 := dD_some h1; obtain ⟨x8, rfl, h1⟩ := h1
  replace h1 := dC_some h1; obtain ⟨y26, l27, rfl, h1⟩ := h1
  replace h1 := dD_some h1; obtain ⟨x9, rfl, h1⟩ := h1
  replace h1 := dCI_some h1; obtain ⟨x10, l28, rfl, h1⟩ := h1
  replace h1 := dE_some h1; obtain ⟨rfl, h1⟩ := h1
  replace h1 := dE_some h1; obtain ⟨rfl, h1⟩ := h1
  replace h1 := dE_some h1; obtain ⟨rfl, h1⟩ := h1
  cases h1
  rcases pick_cons h2 with ⟨hc0, rfl, rfl⟩ | h2
  · exact ⟨0 + 40, (evPiece_code rfl).trans (lL5_68_0 0 _ _ _ _ _ _ _ _ _ _ _ _ (isL_val hc0))⟩
  obtain ⟨hc1, rfl, rfl⟩ := pick_one h2
  exact ⟨0 + 40, (evPiece_code rfl).trans (lL5_68_0 0 _ _ _ _ _ _ _ _ _ _ _ _ (getR_val (ok_val hc1)))⟩
noncomputable def o80 : OrcT := o79
noncomputable def t80 : TellT := ((5, 68), sL5_68_0) :: t79
noncomputable abbrev tn80 : FuncId → TAn := mkTn base o80 t80
theorem ok80 : TnOk Try.prog tn80 (mkA base) dOk := by
  have h0 : TnOk Try.prog (mkTn base o79 t79) (mkA base) dOk := ok79
  have h1 := tn_tell h0 h0 (p := ((5, 68), sL5_68_0)) wL5_68_0
  exact h1
noncomputable def L5_0_0 : Nat → (List (List Int)) → Bool → Int → Int → Int → (List Int) → (List (List (List Int))) → (List (List Int)) → (List Int) → Int → Option (Bool ⊕ Int)
  | 0, _, _, _, _, _, _, _, _, _, _ => none
  | n + 1, x0, x1, x2, x3, x4, x5, x6, x7, x8, x9 => (cond (decide (x4 < x3)) (cond (isL (L5_68_0 x0 x1 x2 x4 x3 x4 x5 x6 x7 x8 x9)) (some (.inl (getL (L5_68_0 x0 x1 x2 x4 x3 x4 x5 x6 x7 x8 x9)))) (cond (ok (getR (L5_68_0 x0 x1 x2 x4 x3 x4 x5 x6 x7 x8 x9))) (L5_0_0 n (x0) (x1) (val (getR (L5_68_0 x0 x1 x2 x4 x3 x4 x5 x6 x7 x8 x9))) (x3) (IntKind.wrap IntKind.i64 (x4 + (1 : Int))) (x5) (x6) (x7) (x8) (x9)) none)) (some (.inr (x2))))
theorem qL5_0_0 : type_of% @L5_0_0.eq_2 := @L5_0_0.eq_2
noncomputable def xL5_0_0 (x0 : (List (List Int))) (x1 : Bool) (x2 : Int) (x3 : Int) (x4 : Int) (x5 : (List Int)) (x6 : (List (List (List Int)))) (x7 : (List (List Int))) (x8 : (List Int)) (x9 : Int) : (Bool ⊕ Int) → Ex × CS := fun r => match r with | .inl a0 => (.ret, { sl := [(6, .v (.sc (.bool (a0))))], lo := [], h := [], n0 := 0, w := true }) | .inr b0 => ((.exit 0), { sl := [(3, .l 3 0), (4, .l 4 0), (7, .v (.sc (.bool (x1)))), (8, .v (.sc (.int .i64 (b0))))], lo := [(3, [.d 3 (.int .i64) (x5), .d 26 (.list 22 (.list 3 (.int .i64))) (x6)]), (4, [.d 22 (.list 3 (.int .i64)) (x7), .d 3 (.int .i64) (x8), .int .i64 (x9)])], h := [], n0 := 0, w := false })
theorem bL5_0_0 (k : Nat) (cN : CS → Option (Ex × CS)) (cX : Ex → CS → Option (Ex × CS)) (x0 : (List (List Int))) (x1 : Bool) (x2 : Int) (x3 : Int) (x4 : Int) (x5 : (List Int)) (x6 : (List (List (List Int)))) (x7 : (List (List Int))) (x8 : (List Int)) (x9 : Int) : loopBody Try.prog (mkTn base o80 t80 5) (TM.evF Try.prog (mkTn base o80 t80) dOk (k + 40)) dOk (k + 40) (codeAt Try.prog (tn0 5) 5 0) 0 0 { sl := [(2, .v (.sc (.d 22 (.list 3 (.int .i64)) (x0)))), (3, .l 3 0), (4, .l 4 0), (7, .v (.sc (.bool (x1)))), (8, .v (.sc (.int .i64 (x2)))), (57, .v (.sc (.int .i64 (x3)))), (58, .v (.sc (.int .i64 (x4))))], lo := [(3, [.d 3 (.int .i64) (x5), .d 26 (.list 22 (.list 3 (.int .i64))) (x6)]), (4, [.d 22 (.list 3 (.int .i64)) (x7), .d 3 (.int .i64) (x8), .int .i64 (x9)])], h := [], n0 := 0, w := false } cN cX = (cond (decide (x4 < x3)) (cond (isL (L5_68_0 x0 x1 x2 x4 x3 x4 x5 x6 x7 x8 x9)) (cX .ret { sl := [(6, .v (.sc (.bool (getL (L5_68_0 x0 x1 x2 x4 x3 x4 x5 x6 x7 x8 x9)))))], lo := [], h := [], n0 := 0, w := true }) (cond (ok (getR (L5_68_0 x0 x1 x2 x4 x3 x4 x5 x6 x7 x8 x9))) (cN { sl := [(2, .v (.sc (.d 22 (.list 3 (.int .i64)) (x0)))), (3, .l 3 0), (4, .l 4 0), (7, .v (.sc (.bool (x1)))), (8, .v (.sc (.int .i64 (val (getR (L5_68_0 x0 x1 x2 x4 x3 x4 x5 x6 x7 x8 x9)))))), (57, .v (.sc (.int .i64 (x3)))), (58, .v (.sc (.int .i64 (IntKind.wrap IntKind.i64 (x4 + (1 : Int))))))], lo := [(3, [.d 3 (.int .i64) (x5), .d 26 (.list 22 (.list 3 (.int .i64))) (x6)]), (4, [.d 22 (.list 3 (.int .i64)) (x7), .d 3 (.int .i64) (x8), .int .i64 (x9)])], h := [], n0 := 0, w := false }) none)) (cX (.exit 0) { sl := [(3, .l 3 0), (4, .l 4 0), (7, .v (.sc (.bool (x1)))), (8, .v (.sc (.int .i64 (x2))))], lo := [(3, [.d 3 (.int .i64) (x5), .d 26 (.list 22 (.list 3 (.int .i64))) (x6)]), (4, [.d 22 (.list 3 (.int .i64)) (x7), .d 3 (.int .i64) (x8), .int .i64 (x9)])], h := [], n0 := 0, w := false })) := by kernel_rfl
theorem lL5_0_0 (k m : Nat) : ∀ (n : Nat) (x0 : (List (List Int))) (x1 : Bool) (x2 : Int) (x3 : Int) (x4 : Int) (x5 : (List Int)) (x6 : (List (List (List Int)))) (x7 : (List (List Int))) (x8 : (List Int)) (x9 : Int) (r : (Bool ⊕ Int)), L5_0_0 n x0 x1 x2 x3 x4 x5 x6 x7 x8 x9 = some r → loopE Try.prog (mkTn base o80 t80 5) (TM.evF Try.prog (mkTn base o80 t80) dOk (k + 40)) dOk (k + 40) (codeAt Try.prog (tn0 5) 5 0) 0 0 (n + m) { sl := [(2, .v (.sc (.d 22 (.list 3 (.int .i64)) (x0)))), (3, .l 3 0), (4, .l 4 0), (7, .v (.sc (.bool (x1)))), (8, .v (.sc (.int .i64 (x2)))), (57, .v (.sc (.int .i64 (x3)))), (58, .v (.sc (.int .i64 (x4))))], lo := [(3, [.d 3 (.int .i64) (x5), .d 26 (.list 22 (.list 3 (.int .i64))) (x6)]), (4, [.d 22 (.list 3 (.int .i64)) (x7), .d 3 (.int .i64) (x8), .int .i64 (x9)])], h := [], n0 := 0, w := false } = some (xL5_0_0 x0 x1 x2 x3 x4 x5 x6 x7 x8 x9 r) := by
  intro n
  induction n with
  | zero => intro _ _ _ _ _ _ _ _ _ _ r h; cases h
  | succ n ih =>
    intro x0 x1 x2 x3 x4 x5 x6 x7 x8 x9 r
    rw [show n + 1 + m = n + m + 1 by omega, loop_step, bL5_0_0, qL5_0_0]
    cases (decide (x4 < x3)) with
    | true =>
      cases (isL (L5_68_0 x0 x1 x2 x4 x3 x4 x5 x6 x7 x8 x9)) with
      | true =>
        intro h; cases h; rfl
      | false =>
        cases (ok (getR (L5_68_0 x0 x1 x2 x4 x3 x4 x5 x6 x7 x8 x9))) with
        | true =>
          exact ih _ _ _ _ _ _ _ _ _ _ r
        | false =>
          intro h; cases h
    | false =>
      intro h; cases h; rfl
noncomputable def sL5_0_0 : TellS := fun S => dCS 0 S fun y1 y2 y3 => dSs 2 y1 fun y5 l4 => dD 22 (.list 3 (.int .i64)) y5 fun x0 => dSt 3 l4 fun y7 l6 => dL 3 0 y7 <| dSt 4 l6 fun y9 l8 => dL 4 0 y9 <| dSs 7 l8 fun y11 l10 => dBool y11 fun x1 => dSI 8 .i64 l10 fun x2 l12 => dSI 57 .i64 l12 fun x3 l13 => dSI 58 .i64 l13 fun x4 l14 => dE l14 <| dLo 3 y2 fun y15 l16 => dC y15 fun y17 l18 => dD 3 (.int .i64) y17 fun x5 => dC l18 fun y19 l20 => dD 26 (.list 22 (.list 3 (.int .i64))) y19 fun x6 => dE l20 <| dLo 4 l16 fun y21 l22 => dC y21 fun y23 l24 => dD 22 (.list 3 (.int .i64)) y23 fun x7 => dC l24 fun y25 l26 => dD 3 (.int .i64) y25 fun x8 => dCI .i64 l26 fun x9 l27 => dE l27 <| dE l22 <| dE y3 <|  some [(isL (L5_0_0 FU x0 x1 x2 x3 x4 x5 x6 x7 x8 x9), .ret, { sl := [(6, .v (.sc (.bool ((getL (L5_0_0 FU x0 x1 x2 x3 x4 x5 x6 x7 x8 x9))))))], lo := [], h := [], n0 := 0, w := true }), (ok (getR (L5_0_0 FU x0 x1 x2 x3 x4 x5 x6 x7 x8 x9)), (.exit 0), { sl := [(3, .l 3 0), (4, .l 4 0), (7, .v (.sc (.bool (x1)))), (8, .v (.sc (.int .i64 ((val (getR (L5_0_0 FU x0 x1 x2 x3 x4 x5 x6 x7 x8 x9)))))))], lo := [(3, [.d 3 (.int .i64) (x5), .d 26 (.list 22 (.list 3 (.int .i64))) (x6)]), (4, [.d 22 (.list 3 (.int .i64)) (x7), .d 3 (.int .i64) (x8), .int .i64 (x9)])], h := [], n0 := 0, w := false })]
theorem wL5_0_0 : NewTell Try.prog dOk base o80 t80 ((5, 0), sL5_0_0) := by
  refine ⟨.loop (codeAt Try.prog (tn0 5) 5 0), 0, by kernel_rfl, ?_⟩
  intro S alts e S' h10 h2
  have h1 : sL5_0_0 S = some alts := h10
  clear h10
  unfold sL5_0_0 at h1
  replace h1 := dCS_some h1; obtain ⟨y1, y2, y3, rfl, h1⟩ := h1
  replace h1 := dSs_some h1; obtain ⟨y5, l4, rfl, h1⟩ := h1
  replace h1 := dD_some h1; obtain ⟨x0, rfl, h1⟩ := h1
  replace h1 := dSt_some h1; obtain ⟨y7, l6, rfl, h1⟩ := h1
  replace h1 := dL_some h1; obtain ⟨rfl, h1⟩ := h1
  replace h1 := dSt_some h1; obtain ⟨y9, l8, rfl, h1⟩ := h1
  replace h1 := dL_some h1; obtain ⟨rfl, h1⟩ := h1
  replace h1 := dSs_some h1; obtain ⟨y11, l10, rfl, h1⟩ := h1
  replace h1 := dBool_some h1; obtain ⟨x1, rfl, h1⟩ := h1
  replace h1 := dSI_some h1; obtain ⟨x2, l12, rfl, h1⟩ := h1
  replace h1 := dSI_some h1; obtain ⟨x3, l13, rfl, h1⟩ := h1
  replace h1 := dSI_some h1; obtain ⟨x4, l14, rfl, h1⟩ := h1
  replace h1 := dE_some h1; obtain ⟨rfl, h1⟩ := h1
  replace h1 := dLo_some h1; obtain ⟨y15, l16, rfl, h1⟩ := h1
  replace h1 := dC_some h1; obtain ⟨y17, l18, rfl, h1⟩ := h1
  replace h1 := dD_some h1; obtain ⟨x5, rfl, h1⟩ := h1
  replace h1 := dC_some h1; obtain ⟨y19, l20, rfl, h1⟩ := h1
  replace h1 := dD_some h1; obtain ⟨x6, rfl, h1⟩ := h1
  replace h1 := dE_some h1; obtain ⟨rfl, h1⟩ := h1
  replace h1 := dLo_some h1; obtain ⟨y21, l22, rfl, h1⟩ := h1
  replace h1 := dC_some h1; obtain ⟨y23, l24, rfl, h1⟩ := h1
  replace h1 := dD_some h1; obtain ⟨x7, rfl, h1⟩ := h1
  replace h1 := dC_some h1; obtain ⟨y25, l26, rfl, h1⟩ := h1
  replace h1 := dD_some h1; obtain ⟨x8, rfl, h1⟩ := h1
  replace h1 := dCI_some h1; obtain ⟨x9, l27, rfl, h1⟩ := h1
  replace h1 := dE_some h1; obtain ⟨rfl, h1⟩ := h1
  replace h1 := dE_some h1; obtain ⟨rfl, h1⟩ := h1
  replace h1 := dE_some h1; obtain ⟨rfl, h1⟩ := h1
  cases h1
  rcases pick_cons h2 with ⟨hc0, rfl, rfl⟩ | h2
  · exact ⟨FU + 40, (evPiece_loop rfl).trans (lL5_0_0 FU 40 FU _ _ _ _ _ _ _ _ _ _ _ (isL_val hc0))⟩
  obtain ⟨hc1, rfl, rfl⟩ := pick_one h2
  exact ⟨FU + 40, (evPiece_loop rfl).trans (lL5_0_0 FU 40 FU _ _ _ _ _ _ _ _ _ _ _ (getR_val (ok_val hc1)))⟩
noncomputable def o81 : OrcT := o80
noncomputable def t81 : TellT := ((5, 0), sL5_0_0) :: t80
noncomputable abbrev tn81 : FuncId → TAn := mkTn base o81 t81
theorem ok81 : TnOk Try.prog tn81 (mkA base) dOk := by
  have h0 : TnOk Try.prog (mkTn base o80 t80) (mkA base) dOk := ok80
  have h1 := tn_tell h0 h0 (p := ((5, 0), sL5_0_0)) wL5_0_0
  exact h1
noncomputable def L5_44_0 (x0 : (List (List Int))) (x1 : Bool) (x2 : Int) (x3 : (List Int)) (x4 : (List (List (List Int)))) (x5 : (List (List Int))) (x6 : (List Int)) (x7 : Int) : Option Bool := (cond (isL (L5_0_0 FU x0 x1 x2 (↑(List.length x0) : Int) (0 : Int) x3 x4 x5 x6 x7)) (some (getL (L5_0_0 FU x0 x1 x2 (↑(List.length x0) : Int) (0 : Int) x3 x4 x5 x6 x7))) (cond (ok (getR (L5_0_0 FU x0 x1 x2 (↑(List.length x0) : Int) (0 : Int) x3 x4 x5 x6 x7))) (cond (x1) (some (decide (val (getR (L5_0_0 FU x0 x1 x2 (↑(List.length x0) : Int) (0 : Int) x3 x4 x5 x6 x7)) ≤ IntKind.wrap IntKind.i64 (IntKind.wrap IntKind.i64 ((1000000 : Int) * (↑(List.length x4) : Int)) + x7)))) (some (false))) none))
noncomputable def xL5_44_0 (x0 : (List (List Int))) (x1 : Bool) (x2 : Int) (x3 : (List Int)) (x4 : (List (List (List Int)))) (x5 : (List (List Int))) (x6 : (List Int)) (x7 : Int) : Bool → Ex × CS := fun r => (.ret, { sl := [(6, .v (.sc (.bool (r))))], lo := [], h := [], n0 := 0, w := true })
theorem bL5_44_0 (k : Nat) (cX : Ex → CS → Option (Ex × CS)) (x0 : (List (List Int))) (x1 : Bool) (x2 : Int) (x3 : (List Int)) (x4 : (List (List (List Int)))) (x5 : (List (List Int))) (x6 : (List Int)) (x7 : Int) : pieceBody Try.prog (mkTn base o81 t81 5) (TM.evF Try.prog (mkTn base o81 t81) dOk (k + 40)) dOk (k + 40) (codeAt Try.prog (tn0 5) 5 44) 0 44 { sl := [(2, .v (.sc (.d 22 (.list 3 (.int .i64)) (x0)))), (3, .l 3 0), (4, .l 4 0), (7, .v (.sc (.bool (x1)))), (8, .v (.sc (.int .i64 (x2))))], lo := [(3, [.d 3 (.int .i64) (x3), .d 26 (.list 22 (.list 3 (.int .i64))) (x4)]), (4, [.d 22 (.list 3 (.int .i64)) (x5), .d 3 (.int .i64) (x6), .int .i64 (x7)])], h := [], n0 := 0, w := false } cX = (cond (isL (L5_0_0 FU x0 x1 x2 (↑(List.length x0) : Int) (0 : Int) x3 x4 x5 x6 x7)) (cX .ret { sl := [(6, .v (.sc (.bool (getL (L5_0_0 FU x0 x1 x2 (↑(List.length x0) : Int) (0 : Int) x3 x4 x5 x6 x7)))))], lo := [], h := [], n0 := 0, w := true }) (cond (ok (getR (L5_0_0 FU x0 x1 x2 (↑(List.length x0) : Int) (0 : Int) x3 x4 x5 x6 x7))) (cond (x1) (cX .ret { sl := [(6, .v (.sc (.bool (decide (val (getR (L5_0_0 FU x0 x1 x2 (↑(List.length x0) : Int) (0 : Int) x3 x4 x5 x6 x7)) ≤ IntKind.wrap IntKind.i64 (IntKind.wrap IntKind.i64 ((1000000 : Int) * (↑(List.length x4) : Int)) + x7))))))], lo := [], h := [], n0 := 0, w := true }) (cX .ret { sl := [(6, .v (.sc (.bool (false))))], lo := [], h := [], n0 := 0, w := true })) none)) := by kernel_rfl
theorem lL5_44_0 (k : Nat) (x0 : (List (List Int))) (x1 : Bool) (x2 : Int) (x3 : (List Int)) (x4 : (List (List (List Int)))) (x5 : (List (List Int))) (x6 : (List Int)) (x7 : Int) (r : Bool) : L5_44_0 x0 x1 x2 x3 x4 x5 x6 x7 = some r → pieceBody Try.prog (mkTn base o81 t81 5) (TM.evF Try.prog (mkTn base o81 t81) dOk (k + 40)) dOk (k + 40) (codeAt Try.prog (tn0 5) 5 44) 0 44 { sl := [(2, .v (.sc (.d 22 (.list 3 (.int .i64)) (x0)))), (3, .l 3 0), (4, .l 4 0), (7, .v (.sc (.bool (x1)))), (8, .v (.sc (.int .i64 (x2))))], lo := [(3, [.d 3 (.int .i64) (x3), .d 26 (.list 22 (.list 3 (.int .i64))) (x4)]), (4, [.d 22 (.list 3 (.int .i64)) (x5), .d 3 (.int .i64) (x6), .int .i64 (x7)])], h := [], n0 := 0, w := false } (fun e s => some (e, s)) = some (xL5_44_0 x0 x1 x2 x3 x4 x5 x6 x7 r) := by
  rw [bL5_44_0]
  unfold L5_44_0
  cases (isL (L5_0_0 FU x0 x1 x2 (↑(List.length x0) : Int) (0 : Int) x3 x4 x5 x6 x7)) with
  | true =>
    intro h; cases h; rfl
  | false =>
    cases (ok (getR (L5_0_0 FU x0 x1 x2 (↑(List.length x0) : Int) (0 : Int) x3 x4 x5 x6 x7))) with
    | true =>
      cases x1 with
      | true =>
        intro h; cases h; rfl
      | false =>
        intro h; cases h; rfl
    | false =>
      intro h; cases h
noncomputable def sL5_44_0 : TellS := fun S => dCS 0 S fun y1 y2 y3 => dSs 2 y1 fun y5 l4 => dD 22 (.list 3 (.int .i64)) y5 fun x0 => dSt 3 l4 fun y7 l6 => dL 3 0 y7 <| dSt 4 l6 fun y9 l8 => dL 4 0 y9 <| dSs 7 l8 fun y11 l10 => dBool y11 fun x1 => dSI 8 .i64 l10 fun x2 l12 => dE l12 <| dLo 3 y2 fun y13 l14 => dC y13 fun y15 l16 => dD 3 (.int .i64) y15 fun x3 => dC l16 fun y17 l18 => dD 26 (.list 22 (.list 3 (.int .i64))) y17 fun x4 => dE l18 <| dLo 4 l14 fun y19 l20 => dC y19 fun y21 l22 => dD 22 (.list 3 (.int .i64)) y21 fun x5 => dC l22 fun y23 l24 => dD 3 (.int .i64) y23 fun x6 => dCI .i64 l24 fun x7 l25 => dE l25 <| dE l20 <| dE y3 <|  some [(ok (L5_44_0 x0 x1 x2 x3 x4 x5 x6 x7), .ret, { sl := [(6, .v (.sc (.bool ((val (L5_44_0 x0 x1 x2 x3 x4 x5 x6 x7))))))], lo := [], h := [], n0 := 0, w := true })]
theorem wL5_44_0 : NewTell Try.prog dOk base o81 t81 ((5, 44), sL5_44_0) := by
  refine ⟨(codeAt Try.prog (tn0 5) 5 44), 0, by kernel_rfl, ?_⟩
  intro S alts e S' h10 h2
  have h1 : sL5_44_0 S = some alts := h10
  clear h10
  unfold sL5_44_0 at h1
  replace h1 := dCS_some h1; obtain ⟨y1, y2, y3, rfl, h1⟩ := h1
  replace h1 := dSs_some h1; obtain ⟨y5, l4, rfl, h1⟩ := h1
  replace h1 := dD_some h1; obtain ⟨x0, rfl, h1⟩ := h1
  replace h1 := dSt_some h1; obtain ⟨y7, l6, rfl, h1⟩ := h1
  replace h1 := dL_some h1; obtain ⟨rfl, h1⟩ := h1
  replace h1 := dSt_some h1; obtain ⟨y9, l8, rfl, h1⟩ := h1
  replace h1 := dL_some h1; obtain ⟨rfl, h1⟩ := h1
  replace h1 := dSs_some h1; obtain ⟨y11, l10, rfl, h1⟩ := h1
  replace h1 := dBool_some h1; obtain ⟨x1, rfl, h1⟩ := h1
  replace h1 := dSI_some h1; obtain ⟨x2, l12, rfl, h1⟩ := h1
  replace h1 := dE_some h1; obtain ⟨rfl, h1⟩ := h1
  replace h1 := dLo_some h1; obtain ⟨y13, l14, rfl, h1⟩ := h1
  replace h1 := dC_some h1; obtain ⟨y15, l16, rfl, h1⟩ := h1
  replace h1 := dD_some h1; obtain ⟨x3, rfl, h1⟩ := h1
  replace h1 := dC_some h1; obtain ⟨y17, l18, rfl, h1⟩ := h1
  replace h1 := dD_some h1; obtain ⟨x4, rfl, h1⟩ := h1
  replace h1 := dE_some h1; obtain ⟨rfl, h1⟩ := h1
  replace h1 := dLo_some h1; obtain ⟨y19, l20, rfl, h1⟩ := h1
  replace h1 := dC_some h1; obtain ⟨y21, l22, rfl, h1⟩ := h1
  replace h1 := dD_some h1; obtain ⟨x5, rfl, h1⟩ := h1
  replace h1 := dC_some h1; obtain ⟨y23, l24, rfl, h1⟩ := h1
  replace h1 := dD_some h1; obtain ⟨x6, rfl, h1⟩ := h1
  replace h1 := dCI_some h1; obtain ⟨x7, l25, rfl, h1⟩ := h1
  replace h1 := dE_some h1; obtain ⟨rfl, h1⟩ := h1
  replace h1 := dE_some h1; obtain ⟨rfl, h1⟩ := h1
  replace h1 := dE_some h1; obtain ⟨rfl, h1⟩ := h1
  cases h1
  obtain ⟨hc0, rfl, rfl⟩ := pick_one h2
  exact ⟨0 + 40, (evPiece_code rfl).trans (lL5_44_0 0 _ _ _ _ _ _ _ _ _ (ok_val hc0))⟩
noncomputable def o82 : OrcT := o81
noncomputable def t82 : TellT := ((5, 44), sL5_44_0) :: t81
noncomputable abbrev tn82 : FuncId → TAn := mkTn base o82 t82
theorem ok82 : TnOk Try.prog tn82 (mkA base) dOk := by
  have h0 : TnOk Try.prog (mkTn base o81 t81) (mkA base) dOk := ok81
  have h1 := tn_tell h0 h0 (p := ((5, 44), sL5_44_0)) wL5_44_0
  exact h1
noncomputable def v5 (x0 : (List Int)) (x1 : (List (List (List Int)))) (x2 : (List (List Int))) (x3 : (List Int)) (x4 : Int) (x5 : (List (List Int))) : Option Bool := (cond (ok (v10 x0 x1 x2 x3)) (cond (!val (v10 x0 x1 x2 x3)) (some (true)) (cond (ok (v10 x0 x1 x5 [])) (cond (!val (v10 x0 x1 x5 [])) (some (true)) (cond (ok (v15 x0 x1 x2 x3 x4)) (cond (!val (v15 x0 x1 x2 x3 x4)) (some (true)) (cond (ok (v14 x0 x1)) (cond (!val (v14 x0 x1)) (some (true)) (cond (ok (v17 x0 x1 x2)) (cond (!val (v17 x0 x1 x2)) (some (true)) (cond (ok (v17 x0 x1 x5)) (cond (!val (v17 x0 x1 x5)) (some (true)) (cond (ok (v18 x0 x1 x5)) (cond (!val (v18 x0 x1 x5)) (some (true)) (cond (ok (L5_44_0 x5 (val v9) (0 : Int) x0 x1 x2 x3 x4)) (some (val (L5_44_0 x5 (val v9) (0 : Int) x0 x1 x2 x3 x4))) none)) none)) none)) none)) none)) none)) none)) none)
theorem ev5 (x0 : (List Int)) (x1 : (List (List (List Int)))) (x2 : (List (List Int))) (x3 : (List Int)) (x4 : Int) (x5 : (List (List Int))) : fnBody Try.prog (mkTn base o82 t82 5) (TM.evF Try.prog (mkTn base o82 t82) dOk 40) dOk 40 5 [.agg [.d 3 (.int .i64) (x0), .d 26 (.list 22 (.list 3 (.int .i64))) (x1)], .agg [.d 22 (.list 3 (.int .i64)) (x2), .d 3 (.int .i64) (x3), .int .i64 (x4)], .sc (.d 22 (.list 3 (.int .i64)) (x5))] [] = (v5 x0 x1 x2 x3 x4 x5).bind fun r => some ([.sc (.bool (r))], []) := by
  refine Eq.trans (b := (cond (ok (v10 x0 x1 x2 x3)) (cond (!val (v10 x0 x1 x2 x3)) (some ([.sc (.bool (true))], [])) (cond (ok (v10 x0 x1 x5 [])) (cond (!val (v10 x0 x1 x5 [])) (some ([.sc (.bool (true))], [])) (cond (ok (v15 x0 x1 x2 x3 x4)) (cond (!val (v15 x0 x1 x2 x3 x4)) (some ([.sc (.bool (true))], [])) (cond (ok (v14 x0 x1)) (cond (!val (v14 x0 x1)) (some ([.sc (.bool (true))], [])) (cond (ok (v17 x0 x1 x2)) (cond (!val (v17 x0 x1 x2)) (some ([.sc (.bool (true))], [])) (cond (ok (v17 x0 x1 x5)) (cond (!val (v17 x0 x1 x5)) (some ([.sc (.bool (true))], [])) (cond (ok (v18 x0 x1 x5)) (cond (!val (v18 x0 x1 x5)) (some ([.sc (.bool (true))], [])) (cond (ok (L5_44_0 x5 (val v9) (0 : Int) x0 x1 x2 x3 x4)) (some ([.sc (.bool (val (L5_44_0 x5 (val v9) (0 : Int) x0 x1 x2 x3 x4)))], [])) none)) none)) none)) none)) none)) none)) none)) none)) (by kernel_rfl) ?_
  unfold v5
  cases (ok (v10 x0 x1 x2 x3)) with
  | true =>
    cases (!val (v10 x0 x1 x2 x3)) with
    | true =>
      rfl
    | false =>
      cases (ok (v10 x0 x1 x5 [])) with
      | true =>
        cases (!val (v10 x0 x1 x5 [])) with
        | true =>
          rfl
        | false =>
          cases (ok (v15 x0 x1 x2 x3 x4)) with
          | true =>
            cases (!val (v15 x0 x1 x2 x3 x4)) with
            | true =>
              rfl
            | false =>
              cases (ok (v14 x0 x1)) with
              | true =>
                cases (!val (v14 x0 x1)) with
                | true =>
                  rfl
                | false =>
                  cases (ok (v17 x0 x1 x2)) with
                  | true =>
                    cases (!val (v17 x0 x1 x2)) with
                    | true =>
                      rfl
                    | false =>
                      cases (ok (v17 x0 x1 x5)) with
                      | true =>
                        cases (!val (v17 x0 x1 x5)) with
                        | true =>
                          rfl
                        | false =>
                          cases (ok (v18 x0 x1 x5)) with
                          | true =>
                            cases (!val (v18 x0 x1 x5)) with
                            | true =>
                              rfl
                            | false =>
                              cases (ok (L5_44_0 x5 (val v9) (0 : Int) x0 x1 x2 x3 x4)) with
                              | true =>
                                rfl
                              | false =>
                                rfl
                          | false =>
                            rfl
                      | false =>
                        rfl
                  | false =>
                    rfl
              | false =>
                rfl
          | false =>
            rfl
      | false =>
        rfl
  | false =>
    rfl
noncomputable def sv5 : OrcS := fun al H => dC al fun y1 l2 => dA y1 fun y3 => dC y3 fun y4 l5 => dD 3 (.int .i64) y4 fun x0 => dC l5 fun y6 l7 => dD 26 (.list 22 (.list 3 (.int .i64))) y6 fun x1 => dE l7 <| dC l2 fun y8 l9 => dA y8 fun y10 => dC y10 fun y11 l12 => dD 22 (.list 3 (.int .i64)) y11 fun x2 => dC l12 fun y13 l14 => dD 3 (.int .i64) y13 fun x3 => dCI .i64 l14 fun x4 l15 => dE l15 <| dC l9 fun y16 l17 => dS y16 fun y18 => dD 22 (.list 3 (.int .i64)) y18 fun x5 => dE l17 <| dE H <|  some [(ok (v5 x0 x1 x2 x3 x4 x5), [.sc (.bool ((val (v5 x0 x1 x2 x3 x4 x5))))], [])]
theorem wv5 : NewOrc Try.prog dOk base o82 t82 (5, sv5) := by
  intro al H q hq0 rs H2 h2
  have hq : sv5 al H = some q := hq0
  clear hq0
  unfold sv5 at hq
  replace hq := dC_some hq; obtain ⟨y1, l2, rfl, hq⟩ := hq
  replace hq := dA_some hq; obtain ⟨y3, rfl, hq⟩ := hq
  replace hq := dC_some hq; obtain ⟨y4, l5, rfl, hq⟩ := hq
  replace hq := dD_some hq; obtain ⟨x0, rfl, hq⟩ := hq
  replace hq := dC_some hq; obtain ⟨y6, l7, rfl, hq⟩ := hq
  replace hq := dD_some hq; obtain ⟨x1, rfl, hq⟩ := hq
  replace hq := dE_some hq; obtain ⟨rfl, hq⟩ := hq
  replace hq := dC_some hq; obtain ⟨y8, l9, rfl, hq⟩ := hq
  replace hq := dA_some hq; obtain ⟨y10, rfl, hq⟩ := hq
  replace hq := dC_some hq; obtain ⟨y11, l12, rfl, hq⟩ := hq
  replace hq := dD_some hq; obtain ⟨x2, rfl, hq⟩ := hq
  replace hq := dC_some hq; obtain ⟨y13, l14, rfl, hq⟩ := hq
  replace hq := dD_some hq; obtain ⟨x3, rfl, hq⟩ := hq
  replace hq := dCI_some hq; obtain ⟨x4, l15, rfl, hq⟩ := hq
  replace hq := dE_some hq; obtain ⟨rfl, hq⟩ := hq
  replace hq := dC_some hq; obtain ⟨y16, l17, rfl, hq⟩ := hq
  replace hq := dS_some hq; obtain ⟨y18, rfl, hq⟩ := hq
  replace hq := dD_some hq; obtain ⟨x5, rfl, hq⟩ := hq
  replace hq := dE_some hq; obtain ⟨rfl, hq⟩ := hq
  replace hq := dE_some hq; obtain ⟨rfl, hq⟩ := hq
  cases hq
  obtain ⟨hc0, rfl, rfl⟩ := pickR_one h2
  exact ⟨41, (fn_eq (by kernel_rfl)).trans ((ev5 _ _ _ _ _ _).trans (bind_of (ok_val hc0)))⟩
noncomputable def o83 : OrcT := (5, sv5) :: o82
noncomputable def t83 : TellT := t82
noncomputable abbrev tn83 : FuncId → TAn := mkTn base o83 t83
theorem ok83 : TnOk Try.prog tn83 (mkA base) dOk := by
  have h0 : TnOk Try.prog (mkTn base o82 t82) (mkA base) dOk := ok82
  have h1 := tn_orc h0 h0 (p := (5, sv5)) wv5
  exact h1
end Go.Proofs.Ytajodcnnadbjkaa
