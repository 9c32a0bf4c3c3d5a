/- What some functions and loops come to: printed and checked. Written by a program of ours. -/
import Derived.Test.YthbinbcgjhnijaaG2
set_option linter.all false
set_option linter.constructorNameAsVariable false
set_option linter.unnecessarySimpa false
set_option linter.unusedSimpArgs false
set_option linter.unusedVariables false
set_option maxRecDepth 1000000
set_option linter.unusedVariables false
set_option maxHeartbeats 4000000
namespace Go.Proofs.Ythbinbcgjhnijaa
open Go Go.AM Go.TM Go.Proofs
noncomputable def L43_0_0 : Nat → (List (PKt × Int)) → Int → Int → Option (Bool ⊕ Unit)
 | 0, _, _, _ => none
 | n + 1, x0, x1, x2 => (cond (decide (x2 < (↑(List.length x0) : Int))) (cond (decide (0 ≤ x2)) (cond (ok (v27 (Prod.fst (Prod.fst (List.getD x0 (Int.toNat x2) (PKz, (0 : Int))))) (Prod.fst (Prod.snd (Prod.fst (List.getD x0 (Int.toNat x2) (PKz, (0 : Int)))))) (Prod.fst (Prod.snd (Prod.snd (Prod.fst (List.getD x0 (Int.toNat x2) (PKz, (0 : Int))))))) (Prod.fst (Prod.snd (Prod.snd (Prod.snd (Prod.fst (List.getD x0 (Int.toNat x2) (PKz, (0 : Int)))))))) (Prod.fst (Prod.snd (Prod.snd (Prod.snd (Prod.snd (Prod.fst (List.getD x0 (Int.toNat x2) (PKz, (0 : Int))))))))) (Prod.fst (Prod.snd (Prod.snd (Prod.snd (Prod.snd (Prod.snd (Prod.fst (List.getD x0 (Int.toNat x2) (PKz, (0 : Int)))))))))) (Prod.fst (Prod.snd (Prod.snd (Prod.snd (Prod.snd (Prod.snd (Prod.snd (Prod.fst (List.getD x0 (Int.toNat x2) (PKz, (0 : Int))))))))))) (Prod.snd (Prod.snd (Prod.snd (Prod.snd (Prod.snd (Prod.snd (Prod.snd (Prod.fst (List.getD x0 (Int.toNat x2) (PKz, (0 : Int))))))))))))) (cond (!val (v27 (Prod.fst (Prod.fst (List.getD x0 (Int.toNat x2) (PKz, (0 : Int))))) (Prod.fst (Prod.snd (Prod.fst (List.getD x0 (Int.toNat x2) (PKz, (0 : Int)))))) (Prod.fst (Prod.snd (Prod.snd (Prod.fst (List.getD x0 (Int.toNat x2) (PKz, (0 : Int))))))) (Prod.fst (Prod.snd (Prod.snd (Prod.snd (Prod.fst (List.getD x0 (Int.toNat x2) (PKz, (0 : Int)))))))) (Prod.fst (Prod.snd (Prod.snd (Prod.snd (Prod.snd (Prod.fst (List.getD x0 (Int.toNat x2) (PKz, (0 : Int))))))))) (Prod.fst (Prod.snd (Prod.snd (Prod.snd (Prod.snd (Prod.snd (Prod.fst (List.getD x0 (Int.toNat x2) (PKz, (0 : Int)))))))))) (Prod.fst (Prod.snd (Prod.snd (Prod.snd (Prod.snd (Prod.snd (Prod.snd (Prod.fst (List.getD x0 (Int.toNat x2) (PKz, (0 : Int))))))))))) (Prod.snd (Prod.snd (Prod.snd (Prod.snd (Prod.snd (Prod.snd (Prod.snd (Prod.fst (List.getD x0 (Int.toNat x2) (PKz, (0 : Int))))))))))))) (some (.inl (false))) (cond (ok (v26 (Prod.snd (List.getD x0 (Int.toNat x2) (PKz, (0 : Int)))))) (cond (!val (v26 (Prod.snd (List.getD x0 (Int.toNat x2) (PKz, (0 : Int)))))) (some (.inl (false))) (cond (decide (Prod.snd (List.getD x0 (Int.toNat x2) (PKz, (0 : Int))) > x1)) (some (.inl (false))) (cond (decide (x2 > 0)) (cond (decide (0 ≤ IntKind.wrap IntKind.i64 (x2 - (1 : Int)))) (cond (decide (IntKind.wrap IntKind.i64 (x2 - (1 : Int)) < (↑(List.length x0) : Int))) (cond (decide (Prod.snd (List.getD x0 (Int.toNat x2) (PKz, (0 : Int))) < Prod.snd (List.getD x0 (Int.toNat (IntKind.wrap IntKind.i64 (x2 - (1 : Int)))) (PKz, (0 : Int))))) (some (.inl (false))) (L43_0_0 n (x0) (x1) (IntKind.wrap IntKind.i64 (x2 + (1 : Int))))) none) none) (L43_0_0 n (x0) (x1) (IntKind.wrap IntKind.i64 (x2 + (1 : Int))))))) none)) none) none) (some (.inr ())))
theorem qL43_0_0 : type_of% @L43_0_0.eq_2 := @L43_0_0.eq_2
noncomputable def xL43_0_0 (x0 : (List (PKt × Int))) (x1 x2 : Int) : (Bool ⊕ Unit) → Ex × CS := fun r => match r with | .inl a0 => (.ret, { sl := [(4, .v (.sc (.bool (a0))))], lo := [], h := [], n0 := 0, w := true }) | .inr b0 => ((.exit 0), { sl := [], lo := [], h := [], n0 := 0, w := false })
theorem bL43_0_0 (k : Nat) (cN : CS → Option (Ex × CS)) (cX : Ex → CS → Option (Ex × CS)) (x0 : (List (PKt × Int))) (x1 x2 : Int) : loopBody Try.prog (mkTn base o34 t34 43) (TM.evF Try.prog (mkTn base o34 t34) dOk (k + 40)) dOk (k + 40) (codeAt Try.prog (tn0 43) 43 0) 0 0 { sl := [(0, .v (.sc (.d 55 QDy (x0)))), (1, .v (.sc (I4 (x1)))), (5, .v (.sc (I4 (x2))))], lo := [], h := [], n0 := 0, w := false } cN cX = (cond (decide (x2 < (↑(List.length x0) : Int))) (cond (decide (0 ≤ x2)) (cond (decide (x2 < (↑(List.length x0) : Int))) (cond (ok (v27 (Prod.fst (Prod.fst (List.getD x0 (Int.toNat x2) (PKz, (0 : Int))))) (Prod.fst (Prod.snd (Prod.fst (List.getD x0 (Int.toNat x2) (PKz, (0 : Int)))))) (Prod.fst (Prod.snd (Prod.snd (Prod.fst (List.getD x0 (Int.toNat x2) (PKz, (0 : Int))))))) (Prod.fst (Prod.snd (Prod.snd (Prod.snd (Prod.fst (List.getD x0 (Int.toNat x2) (PKz, (0 : Int)))))))) (Prod.fst (Prod.snd (Prod.snd (Prod.snd (Prod.snd (Prod.fst (List.getD x0 (Int.toNat x2) (PKz, (0 : Int))))))))) (Prod.fst (Prod.snd (Prod.snd (Prod.snd (Prod.snd (Prod.snd (Prod.fst (List.getD x0 (Int.toNat x2) (PKz, (0 : Int)))))))))) (Prod.fst (Prod.snd (Prod.snd (Prod.snd (Prod.snd (Prod.snd (Prod.snd (Prod.fst (List.getD x0 (Int.toNat x2) (PKz, (0 : Int))))))))))) (Prod.snd (Prod.snd (Prod.snd (Prod.snd (Prod.snd (Prod.snd (Prod.snd (Prod.fst (List.getD x0 (Int.toNat x2) (PKz, (0 : Int))))))))))))) (cond (!val (v27 (Prod.fst (Prod.fst (List.getD x0 (Int.toNat x2) (PKz, (0 : Int))))) (Prod.fst (Prod.snd (Prod.fst (List.getD x0 (Int.toNat x2) (PKz, (0 : Int)))))) (Prod.fst (Prod.snd (Prod.snd (Prod.fst (List.getD x0 (Int.toNat x2) (PKz, (0 : Int))))))) (Prod.fst (Prod.snd (Prod.snd (Prod.snd (Prod.fst (List.getD x0 (Int.toNat x2) (PKz, (0 : Int)))))))) (Prod.fst (Prod.snd (Prod.snd (Prod.snd (Prod.snd (Prod.fst (List.getD x0 (Int.toNat x2) (PKz, (0 : Int))))))))) (Prod.fst (Prod.snd (Prod.snd (Prod.snd (Prod.snd (Prod.snd (Prod.fst (List.getD x0 (Int.toNat x2) (PKz, (0 : Int)))))))))) (Prod.fst (Prod.snd (Prod.snd (Prod.snd (Prod.snd (Prod.snd (Prod.snd (Prod.fst (List.getD x0 (Int.toNat x2) (PKz, (0 : Int))))))))))) (Prod.snd (Prod.snd (Prod.snd (Prod.snd (Prod.snd (Prod.snd (Prod.snd (Prod.fst (List.getD x0 (Int.toNat x2) (PKz, (0 : Int))))))))))))) (cX .ret { sl := [(4, .v (.sc (.bool (false))))], lo := [], h := [], n0 := 0, w := true }) (cond (decide (0 ≤ x2)) (cond (decide (x2 < (↑(List.length x0) : Int))) (cond (ok (v26 (Prod.snd (List.getD x0 (Int.toNat x2) (PKz, (0 : Int)))))) (cond (!val (v26 (Prod.snd (List.getD x0 (Int.toNat x2) (PKz, (0 : Int)))))) (cX .ret { sl := [(4, .v (.sc (.bool (false))))], lo := [], h := [], n0 := 0, w := true }) (cond (decide (0 ≤ x2)) (cond (decide (x2 < (↑(List.length x0) : Int))) (cond (decide (Prod.snd (List.getD x0 (Int.toNat x2) (PKz, (0 : Int))) > x1)) (cX .ret { sl := [(4, .v (.sc (.bool (false))))], lo := [], h := [], n0 := 0, w := true }) (cond (decide (x2 > 0)) (cond (decide (0 ≤ x2)) (cond (decide (x2 < (↑(List.length x0) : Int))) (cond (decide (0 ≤ IntKind.wrap IntKind.i64 (x2 - (1 : Int)))) (cond (decide (IntKind.wrap IntKind.i64 (x2 - (1 : Int)) < (↑(List.length x0) : Int))) (cond (decide (Prod.snd (List.getD x0 (Int.toNat x2) (PKz, (0 : Int))) < Prod.snd (List.getD x0 (Int.toNat (IntKind.wrap IntKind.i64 (x2 - (1 : Int)))) (PKz, (0 : Int))))) (cX .ret { sl := [(4, .v (.sc (.bool (false))))], lo := [], h := [], n0 := 0, w := true }) (cN { sl := [(0, .v (.sc (.d 55 QDy (x0)))), (1, .v (.sc (I4 (x1)))), (5, .v (.sc (I4 (IntKind.wrap IntKind.i64 (x2 + (1 : Int))))))], lo := [], h := [], n0 := 0, w := false })) none) none) none) none) (cN { sl := [(0, .v (.sc (.d 55 QDy (x0)))), (1, .v (.sc (I4 (x1)))), (5, .v (.sc (I4 (IntKind.wrap IntKind.i64 (x2 + (1 : Int))))))], lo := [], h := [], n0 := 0, w := false }))) none) none)) none) none) none)) none) none) none) (cX (.exit 0) { sl := [], lo := [], h := [], n0 := 0, w := false })) := by kernel_rfl
theorem lL43_0_0 (k m : Nat) : ∀ (n : Nat) (x0 : (List (PKt × Int))) (x1 x2 : Int) (r : (Bool ⊕ Unit)), L43_0_0 n x0 x1 x2 = some r → loopE Try.prog (mkTn base o34 t34 43) (TM.evF Try.prog (mkTn base o34 t34) dOk (k + 40)) dOk (k + 40) (codeAt Try.prog (tn0 43) 43 0) 0 0 (n + m) { sl := [(0, .v (.sc (.d 55 QDy (x0)))), (1, .v (.sc (I4 (x1)))), (5, .v (.sc (I4 (x2))))], lo := [], h := [], n0 := 0, w := false } = some (xL43_0_0 x0 x1 x2 r) := by
 intro n
 induction n with
 | zero => intro _ _ _ r h; cases h
 | succ n ih =>
  intro x0 x1 x2 r
  rw [show n + 1 + m = n + m + 1 by omega, loop_step, bL43_0_0, qL43_0_0]
  cases (decide (x2 < (↑(List.length x0) : Int))) with
  | true =>
   cases (decide (0 ≤ x2)) with
   | true =>
    cases (ok (v27 (Prod.fst (Prod.fst (List.getD x0 (Int.toNat x2) (PKz, (0 : Int))))) (Prod.fst (Prod.snd (Prod.fst (List.getD x0 (Int.toNat x2) (PKz, (0 : Int)))))) (Prod.fst (Prod.snd (Prod.snd (Prod.fst (List.getD x0 (Int.toNat x2) (PKz, (0 : Int))))))) (Prod.fst (Prod.snd (Prod.snd (Prod.snd (Prod.fst (List.getD x0 (Int.toNat x2) (PKz, (0 : Int)))))))) (Prod.fst (Prod.snd (Prod.snd (Prod.snd (Prod.snd (Prod.fst (List.getD x0 (Int.toNat x2) (PKz, (0 : Int))))))))) (Prod.fst (Prod.snd (Prod.snd (Prod.snd (Prod.snd (Prod.snd (Prod.fst (List.getD x0 (Int.toNat x2) (PKz, (0 : Int)))))))))) (Prod.fst (Prod.snd (Prod.snd (Prod.snd (Prod.snd (Prod.snd (Prod.snd (Prod.fst (List.getD x0 (Int.toNat x2) (PKz, (0 : Int))))))))))) (Prod.snd (Prod.snd (Prod.snd (Prod.snd (Prod.snd (Prod.snd (Prod.snd (Prod.fst (List.getD x0 (Int.toNat x2) (PKz, (0 : Int))))))))))))) with
    | true =>
     cases (!val (v27 (Prod.fst (Prod.fst (List.getD x0 (Int.toNat x2) (PKz, (0 : Int))))) (Prod.fst (Prod.snd (Prod.fst (List.getD x0 (Int.toNat x2) (PKz, (0 : Int)))))) (Prod.fst (Prod.snd (Prod.snd (Prod.fst (List.getD x0 (Int.toNat x2) (PKz, (0 : Int))))))) (Prod.fst (Prod.snd (Prod.snd (Prod.snd (Prod.fst (List.getD x0 (Int.toNat x2) (PKz, (0 : Int)))))))) (Prod.fst (Prod.snd (Prod.snd (Prod.snd (Prod.snd (Prod.fst (List.getD x0 (Int.toNat x2) (PKz, (0 : Int))))))))) (Prod.fst (Prod.snd (Prod.snd (Prod.snd (Prod.snd (Prod.snd (Prod.fst (List.getD x0 (Int.toNat x2) (PKz, (0 : Int)))))))))) (Prod.fst (Prod.snd (Prod.snd (Prod.snd (Prod.snd (Prod.snd (Prod.snd (Prod.fst (List.getD x0 (Int.toNat x2) (PKz, (0 : Int))))))))))) (Prod.snd (Prod.snd (Prod.snd (Prod.snd (Prod.snd (Prod.snd (Prod.snd (Prod.fst (List.getD x0 (Int.toNat x2) (PKz, (0 : Int))))))))))))) with
     | true =>
      intro h; cases h; rfl
     | false =>
      cases (ok (v26 (Prod.snd (List.getD x0 (Int.toNat x2) (PKz, (0 : Int)))))) with
      | true =>
       cases (!val (v26 (Prod.snd (List.getD x0 (Int.toNat x2) (PKz, (0 : Int)))))) with
       | true =>
        intro h; cases h; rfl
       | false =>
        cases (decide (Prod.snd (List.getD x0 (Int.toNat x2) (PKz, (0 : Int))) > x1)) with
        | true =>
         intro h; cases h; rfl
        | false =>
         cases (decide (x2 > 0)) with
         | true =>
          cases (decide (0 ≤ IntKind.wrap IntKind.i64 (x2 - (1 : Int)))) with
          | true =>
           cases (decide (IntKind.wrap IntKind.i64 (x2 - (1 : Int)) < (↑(List.length x0) : Int))) with
           | true =>
            cases (decide (Prod.snd (List.getD x0 (Int.toNat x2) (PKz, (0 : Int))) < Prod.snd (List.getD x0 (Int.toNat (IntKind.wrap IntKind.i64 (x2 - (1 : Int)))) (PKz, (0 : Int))))) with
            | true =>
             intro h; cases h; rfl
            | false =>
             exact ih _ _ _ r
           | false =>
            intro h; cases h
          | false =>
           intro h; cases h
         | false =>
          exact ih _ _ _ r
      | false =>
       intro h; cases h
    | false =>
     intro h; cases h
   | false =>
    intro h; cases h
  | false =>
   intro h; cases h; rfl
noncomputable def sL43_0_0 : TellS := fun S => dCS 0 S fun y1 y2 y3 => dSs 0 y1 fun y5 l4 => dD 55 QDy y5 fun x0 => dSI 1 .i64 l4 fun x1 l6 => dSI 5 .i64 l6 fun x2 l7 => dE l7 <| dE y2 <| dE y3 <|  some [(isL (L43_0_0 FU x0 x1 x2), .ret, { sl := [(4, .v (.sc (.bool ((getL (L43_0_0 FU x0 x1 x2))))))], lo := [], h := [], n0 := 0, w := true }), (ok (getR (L43_0_0 FU x0 x1 x2)), (.exit 0), { sl := [], lo := [], h := [], n0 := 0, w := false })]
theorem wL43_0_0 : NewTell Try.prog dOk base o34 t34 ((43, 0), sL43_0_0) := by
 refine ⟨.loop (codeAt Try.prog (tn0 43) 43 0), 0, by kernel_rfl, ?_⟩
 intro S alts e S' h10 h2
 have h1 : sL43_0_0 S = some alts := h10
 clear h10
 unfold sL43_0_0 at h1
 obtain ⟨_, _, _, rfl, g1⟩ := dCS_some h1
 obtain ⟨_, _, rfl, g2⟩ := dSs_some g1
 obtain ⟨_, rfl, g3⟩ := dD_some g2
 obtain ⟨_, _, rfl, g4⟩ := dSI_some g3
 obtain ⟨_, _, rfl, g5⟩ := dSI_some g4
 obtain ⟨rfl, g6⟩ := dE_some g5
 obtain ⟨rfl, g7⟩ := dE_some g6
 obtain ⟨rfl, g8⟩ := dE_some g7
 cases g8
 rcases pick_cons h2 with ⟨hc0, rfl, rfl⟩ | h2
 · exact ⟨FU + 40, (evPiece_loop rfl).trans (lL43_0_0 FU 40 FU _ _ _ _ (isL_val hc0))⟩
 obtain ⟨hc1, rfl, rfl⟩ := pick_one h2
 exact ⟨FU + 40, (evPiece_loop rfl).trans (lL43_0_0 FU 40 FU _ _ _ _ (getR_val (ok_val hc1)))⟩
noncomputable def o35 : OrcT := o34
noncomputable def t35 : TellT := ((43, 0), sL43_0_0) :: t34
noncomputable abbrev tn35 : FuncId → TAn := mkTn base o35 t35
theorem ok35 : TnOk Try.prog tn35 (mkA base) dOk := by
 have h0 : TnOk Try.prog (mkTn base o34 t34) (mkA base) dOk := ok34
 have h1 := tn_tell h0 h0 (p := ((43, 0), sL43_0_0)) wL43_0_0
 exact h1
noncomputable def v43 (x0 : (List (PKt × Int))) (x1 : Int) : Option Bool := (cond (isL (L43_0_0 FU x0 x1 0)) (some (getL (L43_0_0 FU x0 x1 0))) (cond (ok (getR (L43_0_0 FU x0 x1 0))) (some (true)) none))
theorem ev43 (x0 : (List (PKt × Int))) (x1 : Int) : fnBody Try.prog (mkTn base o35 t35 43) (TM.evF Try.prog (mkTn base o35 t35) dOk 40) dOk 40 43 [.sc (.d 55 QDy (x0)), .sc (I4 (x1))] [] = (v43 x0 x1).bind fun r => some ([.sc (.bool (r))], []) := by
 refine Eq.trans (b := (cond (isL (L43_0_0 FU x0 x1 0)) (some ([.sc (.bool (getL (L43_0_0 FU x0 x1 0)))], [])) (cond (ok (getR (L43_0_0 FU x0 x1 0))) (some ([.sc (.bool (true))], [])) none))) (by kernel_rfl) ?_
 unfold v43
 refine cond_bd ?_ ?_
 rfl
 refine cond_bd ?_ ?_
 rfl
 rfl
noncomputable def sv43 : OrcS := fun al H => dC al fun y1 l2 => dS y1 fun y3 => dD 55 QDy y3 fun x0 => dC l2 fun y4 l5 => dS y4 fun y6 => dInt .i64 y6 fun x1 => dE l5 <| dE H <|  some [(ok (v43 x0 x1), [.sc (.bool ((val (v43 x0 x1))))], [])]
theorem wv43 : NewOrc Try.prog dOk base o35 t35 (43, sv43) := by
 intro al H q hq0 rs H2 h2
 have hq : sv43 al H = some q := hq0
 clear hq0
 unfold sv43 at hq
 obtain ⟨_, _, rfl, g1⟩ := dC_some hq
 obtain ⟨_, rfl, g2⟩ := dS_some g1
 obtain ⟨_, rfl, g3⟩ := dD_some g2
 obtain ⟨_, _, rfl, g4⟩ := dC_some g3
 obtain ⟨_, rfl, g5⟩ := dS_some g4
 obtain ⟨_, rfl, g6⟩ := dInt_some g5
 obtain ⟨rfl, g7⟩ := dE_some g6
 obtain ⟨rfl, g8⟩ := dE_some g7
 cases g8
 obtain ⟨hc0, rfl, rfl⟩ := pickR_one h2
 exact ⟨41, (fn_eq (by kernel_rfl)).trans ((ev43 _ _).trans (bind_of (ok_val hc0)))⟩
noncomputable def o36 : OrcT := (43, sv43) :: o35
noncomputable def t36 : TellT := t35
noncomputable abbrev tn36 : FuncId → TAn := mkTn base o36 t36
theorem ok36 : TnOk Try.prog tn36 (mkA base) dOk := by
 have h0 : TnOk Try.prog (mkTn base o35 t35) (mkA base) dOk := ok35
 have h1 := tn_orc h0 h0 (p := (43, sv43)) wv43
 exact h1
noncomputable def L19_92_0 (x0 x1 x2 x3 x4 : Int) (x5 : (List (List (PKt × Int)))) (x6 x7 x8 x9 A B C D E : Int) : Option Bool := (cond (decide (0 < (↑(List.length x5) : Int))) (cond (decide ((↑(List.length (List.getD x5 (Int.toNat 0) [])) : Int) ≤ x4)) (cond (ok (v43 (List.getD x5 (Int.toNat 0) []) D)) (some (val (v43 (List.getD x5 (Int.toNat 0) []) D))) none) (some (false))) none)
noncomputable def xL19_92_0 (x0 x1 x2 x3 x4 : Int) (x5 : (List (List (PKt × Int)))) (x6 x7 x8 x9 A B C D E : Int) : Bool → Ex × CS := fun r => (.ret, { sl := [(2, .v (.sc (.bool (r))))], lo := [], h := [], n0 := 0, w := true })
theorem bL19_92_0 (k : Nat) (cX : Ex → CS → Option (Ex × CS)) (x0 x1 x2 x3 x4 : Int) (x5 : (List (List (PKt × Int)))) (x6 x7 x8 x9 A B C D E : Int) : pieceBody Try.prog (mkTn base o36 t36 19) (TM.evF Try.prog (mkTn base o36 t36) dOk (k + 40)) dOk (k + 40) (codeAt Try.prog (tn0 19) 19 92) 0 92 { sl := [(1, .l 1 0)], lo := [(1, [I4 (x0), I4 (x1), I4 (x2), I4 (x3), I4 (x4), .d 51 (.list 55 QDy) (x5), I4 (x6), I4 (x7), I4 (x8), I4 (x9), I4 (A), I4 (B), I4 (C), I4 (D), .int .u64 (E)])], h := [], n0 := 0, w := false } cX = (cond (decide (0 < (↑(List.length x5) : Int))) (cond (decide ((↑(List.length (List.getD x5 (Int.toNat 0) [])) : Int) ≤ x4)) (cond (decide (0 < (↑(List.length x5) : Int))) (cond (ok (v43 (List.getD x5 (Int.toNat 0) []) D)) (cX .ret { sl := [(2, .v (.sc (.bool (val (v43 (List.getD x5 (Int.toNat 0) []) D)))))], lo := [], h := [], n0 := 0, w := true }) none) none) (cX .ret { sl := [(2, .v (.sc (.bool (false))))], lo := [], h := [], n0 := 0, w := true })) none) := by kernel_rfl
theorem lL19_92_0 (k : Nat) (x0 x1 x2 x3 x4 : Int) (x5 : (List (List (PKt × Int)))) (x6 x7 x8 x9 A B C D E : Int) (r : Bool) : L19_92_0 x0 x1 x2 x3 x4 x5 x6 x7 x8 x9 A B C D E = some r → pieceBody Try.prog (mkTn base o36 t36 19) (TM.evF Try.prog (mkTn base o36 t36) dOk (k + 40)) dOk (k + 40) (codeAt Try.prog (tn0 19) 19 92) 0 92 { sl := [(1, .l 1 0)], lo := [(1, [I4 (x0), I4 (x1), I4 (x2), I4 (x3), I4 (x4), .d 51 (.list 55 QDy) (x5), I4 (x6), I4 (x7), I4 (x8), I4 (x9), I4 (A), I4 (B), I4 (C), I4 (D), .int .u64 (E)])], h := [], n0 := 0, w := false } (fun e s => some (e, s)) = some (xL19_92_0 x0 x1 x2 x3 x4 x5 x6 x7 x8 x9 A B C D E r) := by
 rw [bL19_92_0]
 unfold L19_92_0
 cases (decide (0 < (↑(List.length x5) : Int))) with
 | true =>
  cases (decide ((↑(List.length (List.getD x5 (Int.toNat 0) [])) : Int) ≤ x4)) with
  | true =>
   cases (ok (v43 (List.getD x5 (Int.toNat 0) []) D)) with
   | true =>
    intro h; cases h; rfl
   | false =>
    intro h; cases h
  | false =>
   intro h; cases h; rfl
 | false =>
  intro h; cases h
noncomputable def sL19_92_0 : TellS := fun S => dCS 0 S fun y1 y2 y3 => dSt 1 y1 fun y5 l4 => dL 1 0 y5 <| dE l4 <| dLo 1 y2 fun y6 l7 => dCI .i64 y6 fun x0 l8 => dCI .i64 l8 fun x1 l9 => dCI .i64 l9 fun x2 l10 => dCI .i64 l10 fun x3 l11 => dCI .i64 l11 fun x4 l12 => dC l12 fun y13 l14 => dD 51 (.list 55 QDy) y13 fun x5 => dCI .i64 l14 fun x6 l15 => dCI .i64 l15 fun x7 l16 => dCI .i64 l16 fun x8 l17 => dCI .i64 l17 fun x9 l18 => dCI .i64 l18 fun A l19 => dCI .i64 l19 fun B l20 => dCI .i64 l20 fun C l21 => dCI .i64 l21 fun D l22 => dCI .u64 l22 fun E l23 => dE l23 <| dE l7 <| dE y3 <|  some [(ok (L19_92_0 x0 x1 x2 x3 x4 x5 x6 x7 x8 x9 A B C D E), .ret, { sl := [(2, .v (.sc (.bool ((val (L19_92_0 x0 x1 x2 x3 x4 x5 x6 x7 x8 x9 A B C D E))))))], lo := [], h := [], n0 := 0, w := true })]
theorem wL19_92_0 : NewTell Try.prog dOk base o36 t36 ((19, 92), sL19_92_0) := by
 refine ⟨(codeAt Try.prog (tn0 19) 19 92), 0, by kernel_rfl, ?_⟩
 intro S alts e S' h10 h2
 have h1 : sL19_92_0 S = some alts := h10
 clear h10
 unfold sL19_92_0 at h1
 replace h1 := dCS_some h1; obtain ⟨_, _, _, rfl, h1⟩ := h1
 replace h1 := dSt_some h1; obtain ⟨_, _, rfl, h1⟩ := h1
 replace h1 := dL_some h1; obtain ⟨rfl, h1⟩ := h1
 replace h1 := dE_some h1; obtain ⟨rfl, h1⟩ := h1
 replace h1 := dLo_some h1; obtain ⟨_, _, rfl, h1⟩ := h1
 replace h1 := dCI_some h1; obtain ⟨_, _, rfl, h1⟩ := h1
 replace h1 := dCI_some h1; obtain ⟨_, _, rfl, h1⟩ := h1
 replace h1 := dCI_some h1; obtain ⟨_, _, rfl, h1⟩ := h1
 replace h1 := dCI_some h1; obtain ⟨_, _, rfl, h1⟩ := h1
 replace h1 := dCI_some h1; obtain ⟨_, _, rfl, h1⟩ := h1
 replace h1 := dC_some h1; obtain ⟨_, _, rfl, h1⟩ := h1
 replace h1 := dD_some h1; obtain ⟨_, rfl, h1⟩ := h1
 replace h1 := dCI_some h1; obtain ⟨_, _, rfl, h1⟩ := h1
 replace h1 := dCI_some h1; obtain ⟨_, _, rfl, h1⟩ := h1
 replace h1 := dCI_some h1; obtain ⟨_, _, rfl, h1⟩ := h1
 replace h1 := dCI_some h1; obtain ⟨_, _, rfl, h1⟩ := h1
 replace h1 := dCI_some h1; obtain ⟨_, _, rfl, h1⟩ := h1
 replace h1 := dCI_some h1; obtain ⟨_, _, rfl, h1⟩ := h1
 replace h1 := dCI_some h1; obtain ⟨_, _, rfl, h1⟩ := h1
 replace h1 := dCI_some h1; obtain ⟨_, _, rfl, h1⟩ := h1
 replace h1 := dCI_some h1; obtain ⟨_, _, rfl, h1⟩ := h1
 replace h1 := dE_some h1; obtain ⟨rfl, h1⟩ := h1
 replace h1 := dE_some h1; obtain ⟨rfl, h1⟩ := h1
 replace h1 := dE_some h1; obtain ⟨rfl, h1⟩ := h1
 cases h1
 obtain ⟨hc0, rfl, rfl⟩ := pick_one h2
 exact ⟨0 + 40, (evPiece_code rfl).trans (lL19_92_0 0 _ _ _ _ _ _ _ _ _ _ _ _ _ _ _ _ (ok_val hc0))⟩
noncomputable def o37 : OrcT := o36
noncomputable def t37 : TellT := ((19, 92), sL19_92_0) :: t36
noncomputable abbrev tn37 : FuncId → TAn := mkTn base o37 t37
theorem ok37 : TnOk Try.prog tn37 (mkA base) dOk := by
 have h0 : TnOk Try.prog (mkTn base o36 t36) (mkA base) dOk := ok36
 have h1 := tn_tell h0 h0 (p := ((19, 92), sL19_92_0)) wL19_92_0
 exact h1
noncomputable def L19_52_0 (x0 x1 x2 x3 x4 : Int) (x5 : (List (List (PKt × Int)))) (x6 x7 x8 x9 A B C D E : Int) : Option Bool := (cond (x8 != 0) (some (false)) (cond (x9 != 0) (some (false)) (cond (A != 0) (some (false)) (cond (B != 0) (some (false)) (cond (C != 0) (some (false)) (cond (ok (L19_92_0 x0 x1 x2 x3 x4 x5 x6 x7 x8 x9 A B C D E)) (some (val (L19_92_0 x0 x1 x2 x3 x4 x5 x6 x7 x8 x9 A B C D E))) none))))))
noncomputable def xL19_52_0 (x0 x1 x2 x3 x4 : Int) (x5 : (List (List (PKt × Int)))) (x6 x7 x8 x9 A B C D E : Int) : Bool → Ex × CS := fun r => (.ret, { sl := [(2, .v (.sc (.bool (r))))], lo := [], h := [], n0 := 0, w := true })
theorem bL19_52_0 (k : Nat) (cX : Ex → CS → Option (Ex × CS)) (x0 x1 x2 x3 x4 : Int) (x5 : (List (List (PKt × Int)))) (x6 x7 x8 x9 A B C D E : Int) : pieceBody Try.prog (mkTn base o37 t37 19) (TM.evF Try.prog (mkTn base o37 t37) dOk (k + 40)) dOk (k + 40) (codeAt Try.prog (tn0 19) 19 52) 0 52 { sl := [(1, .l 1 0), (3, .l 3 0), (5, .l 1 0), (7, .l 3 0), (11, .l 3 1), (16, .l 3 1), (21, .l 3 2), (26, .l 3 2), (31, .l 3 3), (36, .l 1 4), (41, .l 1 4), (46, .l 1 5), (52, .l 1 14), (57, .l 1 6), (58, .l 1 13), (63, .l 1 6), (64, .l 1 6), (68, .l 1 6), (69, .l 1 6), (71, .l 1 6), (72, .l 1 13), (74, .l 3 2), (81, .l 1 6), (82, .l 1 7), (87, .l 1 6), (88, .l 1 7), (93, .l 1 6), (94, .l 1 6), (98, .l 1 6), (99, .l 1 7)], lo := [(1, [I4 (x0), I4 (x1), I4 (x2), I4 (x3), I4 (x4), .d 51 (.list 55 QDy) (x5), I4 (x6), I4 (x7), I4 (x8), I4 (x9), I4 (A), I4 (B), I4 (C), I4 (D), .int .u64 (E)])], h := [], n0 := 0, w := false } cX = (cond (x8 != 0) (cX .ret { sl := [(2, .v (.sc (.bool (false))))], lo := [], h := [], n0 := 0, w := true }) (cond (x9 != 0) (cX .ret { sl := [(2, .v (.sc (.bool (false))))], lo := [], h := [], n0 := 0, w := true }) (cond (A != 0) (cX .ret { sl := [(2, .v (.sc (.bool (false))))], lo := [], h := [], n0 := 0, w := true }) (cond (B != 0) (cX .ret { sl := [(2, .v (.sc (.bool (false))))], lo := [], h := [], n0 := 0, w := true }) (cond (C != 0) (cX .ret { sl := [(2, .v (.sc (.bool (false))))], lo := [], h := [], n0 := 0, w := true }) (cond (ok (L19_92_0 x0 x1 x2 x3 x4 x5 x6 x7 x8 x9 A B C D E)) (cX .ret { sl := [(2, .v (.sc (.bool (val (L19_92_0 x0 x1 x2 x3 x4 x5 x6 x7 x8 x9 A B C D E)))))], lo := [], h := [], n0 := 0, w := true }) none)))))) := by kernel_rfl
theorem lL19_52_0 (k : Nat) (x0 x1 x2 x3 x4 : Int) (x5 : (List (List (PKt × Int)))) (x6 x7 x8 x9 A B C D E : Int) (r : Bool) : L19_52_0 x0 x1 x2 x3 x4 x5 x6 x7 x8 x9 A B C D E = some r → pieceBody Try.prog (mkTn base o37 t37 19) (TM.evF Try.prog (mkTn base o37 t37) dOk (k + 40)) dOk (k + 40) (codeAt Try.prog (tn0 19) 19 52) 0 52 { sl := [(1, .l 1 0), (3, .l 3 0), (5, .l 1 0), (7, .l 3 0), (11, .l 3 1), (16, .l 3 1), (21, .l 3 2), (26, .l 3 2), (31, .l 3 3), (36, .l 1 4), (41, .l 1 4), (46, .l 1 5), (52, .l 1 14), (57, .l 1 6), (58, .l 1 13), (63, .l 1 6), (64, .l 1 6), (68, .l 1 6), (69, .l 1 6), (71, .l 1 6), (72, .l 1 13), (74, .l 3 2), (81, .l 1 6), (82, .l 1 7), (87, .l 1 6), (88, .l 1 7), (93, .l 1 6), (94, .l 1 6), (98, .l 1 6), (99, .l 1 7)], lo := [(1, [I4 (x0), I4 (x1), I4 (x2), I4 (x3), I4 (x4), .d 51 (.list 55 QDy) (x5), I4 (x6), I4 (x7), I4 (x8), I4 (x9), I4 (A), I4 (B), I4 (C), I4 (D), .int .u64 (E)])], h := [], n0 := 0, w := false } (fun e s => some (e, s)) = some (xL19_52_0 x0 x1 x2 x3 x4 x5 x6 x7 x8 x9 A B C D E r) := by
 rw [bL19_52_0]
 unfold L19_52_0
 refine cond_go ?_ ?_
 intro h; cases h; rfl
 refine cond_go ?_ ?_
 intro h; cases h; rfl
 refine cond_go ?_ ?_
 intro h; cases h; rfl
 refine cond_go ?_ ?_
 intro h; cases h; rfl
 refine cond_go ?_ ?_
 intro h; cases h; rfl
 refine cond_go ?_ ?_
 intro h; cases h; rfl
 intro h; cases h
noncomputable def sL19_52_0 : TellS := fun S => dCS 0 S fun y1 y2 y3 => dSt 1 y1 fun y5 l4 => dL 1 0 y5 <| dSt 3 l4 fun y7 l6 => dL 3 0 y7 <| dSt 5 l6 fun y9 l8 => dL 1 0 y9 <| dSt 7 l8 fun y11 l10 => dL 3 0 y11 <| dSt 11 l10 fun y13 l12 => dL 3 1 y13 <| dSt 16 l12 fun y15 l14 => dL 3 1 y15 <| dSt 21 l14 fun y17 l16 => dL 3 2 y17 <| dSt 26 l16 fun y19 l18 => dL 3 2 y19 <| dSt 31 l18 fun y21 l20 => dL 3 3 y21 <| dSt 36 l20 fun y23 l22 => dL 1 4 y23 <| dSt 41 l22 fun y25 l24 => dL 1 4 y25 <| dSt 46 l24 fun y27 l26 => dL 1 5 y27 <| dSt 52 l26 fun y29 l28 => dL 1 14 y29 <| dSt 57 l28 fun y31 l30 => dL 1 6 y31 <| dSt 58 l30 fun y33 l32 => dL 1 13 y33 <| dSt 63 l32 fun y35 l34 => dL 1 6 y35 <| dSt 64 l34 fun y37 l36 => dL 1 6 y37 <| dSt 68 l36 fun y39 l38 => dL 1 6 y39 <| dSt 69 l38 fun y41 l40 => dL 1 6 y41 <| dSt 71 l40 fun y43 l42 => dL 1 6 y43 <| dSt 72 l42 fun y45 l44 => dL 1 13 y45 <| dSt 74 l44 fun y47 l46 => dL 3 2 y47 <| dSt 81 l46 fun y49 l48 => dL 1 6 y49 <| dSt 82 l48 fun y51 l50 => dL 1 7 y51 <| dSt 87 l50 fun y53 l52 => dL 1 6 y53 <| dSt 88 l52 fun y55 l54 => dL 1 7 y55 <| dSt 93 l54 fun y57 l56 => dL 1 6 y57 <| dSt 94 l56 fun y59 l58 => dL 1 6 y59 <| dSt 98 l58 fun y61 l60 => dL 1 6 y61 <| dSt 99 l60 fun y63 l62 => dL 1 7 y63 <| dE l62 <| dLo 1 y2 fun y64 l65 => dCI .i64 y64 fun x0 l66 => dCI .i64 l66 fun x1 l67 => dCI .i64 l67 fun x2 l68 => dCI .i64 l68 fun x3 l69 => dCI .i64 l69 fun x4 l70 => dC l70 fun y71 l72 => dD 51 (.list 55 QDy) y71 fun x5 => dCI .i64 l72 fun x6 l73 => dCI .i64 l73 fun x7 l74 => dCI .i64 l74 fun x8 l75 => dCI .i64 l75 fun x9 l76 => dCI .i64 l76 fun A l77 => dCI .i64 l77 fun B l78 => dCI .i64 l78 fun C l79 => dCI .i64 l79 fun D l80 => dCI .u64 l80 fun E l81 => dE l81 <| dE l65 <| dE y3 <|  some [(ok (L19_52_0 x0 x1 x2 x3 x4 x5 x6 x7 x8 x9 A B C D E), .ret, { sl := [(2, .v (.sc (.bool ((val (L19_52_0 x0 x1 x2 x3 x4 x5 x6 x7 x8 x9 A B C D E))))))], lo := [], h := [], n0 := 0, w := true })]
theorem wL19_52_0 : NewTell Try.prog dOk base o37 t37 ((19, 52), sL19_52_0) := by
 refine ⟨(codeAt Try.prog (tn0 19) 19 52), 0, by kernel_rfl, ?_⟩
 intro S alts e S' h10 h2
 have h1 : sL19_52_0 S = some alts := h10
 clear h10
 unfold sL19_52_0 at h1
 replace h1 := dCS_some h1; obtain ⟨_, _, _, rfl, h1⟩ := h1
 replace h1 := dSt_some h1; obtain ⟨_, _, rfl, h1⟩ := h1
 replace h1 := dL_some h1; obtain ⟨rfl, h1⟩ := h1
 replace h1 := dSt_some h1; obtain ⟨_, _, rfl, h1⟩ := h1
 replace h1 := dL_some h1; obtain ⟨rfl, h1⟩ := h1
 replace h1 := dSt_some h1; obtain ⟨_, _, rfl, h1⟩ := h1
 replace h1 := dL_some h1; obtain ⟨rfl, h1⟩ := h1
 replace h1 := dSt_some h1; obtain ⟨_, _, rfl, h1⟩ := h1
 replace h1 := dL_some h1; obtain ⟨rfl, h1⟩ := h1
 replace h1 := dSt_some h1; obtain ⟨_, _, rfl, h1⟩ := h1
 replace h1 := dL_some h1; obtain ⟨rfl, h1⟩ := h1
 replace h1 := dSt_some h1; obtain ⟨_, _, rfl, h1⟩ := h1
 replace h1 := dL_some h1; obtain ⟨rfl, h1⟩ := h1
 replace h1 := dSt_some h1; obtain ⟨_, _, rfl, h1⟩ := h1
 replace h1 := dL_some h1; obtain ⟨rfl, h1⟩ := h1
 replace h1 := dSt_some h1; obtain ⟨_, _, rfl, h1⟩ := h1
 replace h1 := dL_some h1; obtain ⟨rfl, h1⟩ := h1
 replace h1 := dSt_some h1; obtain ⟨_, _, rfl, h1⟩ := h1
 replace h1 := dL_some h1; obtain ⟨rfl, h1⟩ := h1
 replace h1 := dSt_some h1; obtain ⟨_, _, rfl, h1⟩ := h1
 replace h1 := dL_some h1; obtain ⟨rfl, h1⟩ := h1
 replace h1 := dSt_some h1; obtain ⟨_, _, rfl, h1⟩ := h1
 replace h1 := dL_some h1; obtain ⟨rfl, h1⟩ := h1
 replace h1 := dSt_some h1; obtain ⟨_, _, rfl, h1⟩ := h1
 replace h1 := dL_some h1; obtain ⟨rfl, h1⟩ := h1
 replace h1 := dSt_some h1; obtain ⟨_, _, rfl, h1⟩ := h1
 replace h1 := dL_some h1; obtain ⟨rfl, h1⟩ := h1
 replace h1 := dSt_some h1; obtain ⟨_, _, rfl, h1⟩ := h1
 replace h1 := dL_some h1; obtain ⟨rfl, h1⟩ := h1
 replace h1 := dSt_some h1; obtain ⟨_, _, rfl, h1⟩ := h1
 replace h1 := dL_some h1; obtain ⟨rfl, h1⟩ := h1
 replace h1 := dSt_some h1; obtain ⟨_, _, rfl, h1⟩ := h1
 replace h1 := dL_some h1; obtain ⟨rfl, h1⟩ := h1
 replace h1 := dSt_some h1; obtain ⟨_, _, rfl, h1⟩ := h1
 replace h1 := dL_some h1; obtain ⟨rfl, h1⟩ := h1
 replace h1 := dSt_some h1; obtain ⟨_, _, rfl, h1⟩ := h1
 replace h1 := dL_some h1; obtain ⟨rfl, h1⟩ := h1
 replace h1 := dSt_some h1; obtain ⟨_, _, rfl, h1⟩ := h1
 replace h1 := dL_some h1; obtain ⟨rfl, h1⟩ := h1
 replace h1 := dSt_some h1; obtain ⟨_, _, rfl, h1⟩ := h1
 replace h1 := dL_some h1; obtain ⟨rfl, h1⟩ := h1
 replace h1 := dSt_some h1; obtain ⟨_, _, rfl, h1⟩ := h1
 replace h1 := dL_some h1; obtain ⟨rfl, h1⟩ := h1
 replace h1 := dSt_some h1; obtain ⟨_, _, rfl, h1⟩ := h1
 replace h1 := dL_some h1; obtain ⟨rfl, h1⟩ := h1
 replace h1 := dSt_some h1; obtain ⟨_, _, rfl, h1⟩ := h1
 replace h1 := dL_some h1; obtain ⟨rfl, h1⟩ := h1
 replace h1 := dSt_some h1; obtain ⟨_, _, rfl, h1⟩ := h1
 replace h1 := dL_some h1; obtain ⟨rfl, h1⟩ := h1
 replace h1 := dSt_some h1; obtain ⟨_, _, rfl, h1⟩ := h1
 replace h1 := dL_some h1; obtain ⟨rfl, h1⟩ := h1
 replace h1 := dSt_some h1; obtain ⟨_, _, rfl, h1⟩ := h1
 replace h1 := dL_some h1; obtain ⟨rfl, h1⟩ := h1
 replace h1 := dSt_some h1; obtain ⟨_, _, rfl, h1⟩ := h1
 replace h1 := dL_some h1; obtain ⟨rfl, h1⟩ := h1
 replace h1 := dSt_some h1; obtain ⟨_, _, rfl, h1⟩ := h1
 replace h1 := dL_some h1; obtain ⟨rfl, h1⟩ := h1
 replace h1 := dSt_some h1; obtain ⟨_, _, rfl, h1⟩ := h1
 replace h1 := dL_some h1; obtain ⟨rfl, h1⟩ := h1
 replace h1 := dSt_some h1; obtain ⟨_, _, rfl, h1⟩ := h1
 replace h1 := dL_some h1; obtain ⟨rfl, h1⟩ := h1
 replace h1 := dE_some h1; obtain ⟨rfl, h1⟩ := h1
 replace h1 := dLo_some h1; obtain ⟨_, _, rfl, h1⟩ := h1
 replace h1 := dCI_some h1; obtain ⟨_, _, rfl, h1⟩ := h1
 replace h1 := dCI_some h1; obtain ⟨_, _, rfl, h1⟩ := h1
 replace h1 := dCI_some h1; obtain ⟨_, _, rfl, h1⟩ := h1
 replace h1 := dCI_some h1; obtain ⟨_, _, rfl, h1⟩ := h1
 replace h1 := dCI_some h1; obtain ⟨_, _, rfl, h1⟩ := h1
 replace h1 := dC_some h1; obtain ⟨_, _, rfl, h1⟩ := h1
 replace h1 := dD_some h1; obtain ⟨_, rfl, h1⟩ := h1
 replace h1 := dCI_some h1; obtain ⟨_, _, rfl, h1⟩ := h1
 replace h1 := dCI_some h1; obtain ⟨_, _, rfl, h1⟩ := h1
 replace h1 := dCI_some h1; obtain ⟨_, _, rfl, h1⟩ := h1
 replace h1 := dCI_some h1; obtain ⟨_, _, rfl, h1⟩ := h1
 replace h1 := dCI_some h1; obtain ⟨_, _, rfl, h1⟩ := h1
 replace h1 := dCI_some h1; obtain ⟨_, _, rfl, h1⟩ := h1
 replace h1 := dCI_some h1; obtain ⟨_, _, rfl, h1⟩ := h1
 replace h1 := dCI_some h1; obtain ⟨_, _, rfl, h1⟩ := h1
 replace h1 := dCI_some h1; obtain ⟨_, _, rfl, h1⟩ := h1
 replace h1 := dE_some h1; obtain ⟨rfl, h1⟩ := h1
 replace h1 := dE_some h1; obtain ⟨rfl, h1⟩ := h1
 replace h1 := dE_some h1; obtain ⟨rfl, h1⟩ := h1
 cases h1
 obtain ⟨hc0, rfl, rfl⟩ := pick_one h2
 exact ⟨0 + 40, (evPiece_code rfl).trans (lL19_52_0 0 _ _ _ _ _ _ _ _ _ _ _ _ _ _ _ _ (ok_val hc0))⟩
noncomputable def L19_52_1 (x0 x1 x2 x3 x4 : Int) (x5 : (List (List (PKt × Int)))) (x6 x7 x8 x9 A B C D E : Int) : Option Bool := (cond (x8 != 0) (some (false)) (cond (x9 != 0) (some (false)) (cond (A != 0) (some (false)) (cond (B != 0) (some (false)) (cond (C != 0) (some (false)) (cond (ok (L19_92_0 x0 x1 x2 x3 x4 x5 x6 x7 x8 x9 A B C D E)) (some (val (L19_92_0 x0 x1 x2 x3 x4 x5 x6 x7 x8 x9 A B C D E))) none))))))
noncomputable def xL19_52_1 (x0 x1 x2 x3 x4 : Int) (x5 : (List (List (PKt × Int)))) (x6 x7 x8 x9 A B C D E : Int) : Bool → Ex × CS := fun r => (.ret, { sl := [(2, .v (.sc (.bool (r))))], lo := [], h := [], n0 := 0, w := true })
theorem bL19_52_1 (k : Nat) (cX : Ex → CS → Option (Ex × CS)) (x0 x1 x2 x3 x4 : Int) (x5 : (List (List (PKt × Int)))) (x6 x7 x8 x9 A B C D E : Int) : pieceBody Try.prog (mkTn base o37 t37 19) (TM.evF Try.prog (mkTn base o37 t37) dOk (k + 40)) dOk (k + 40) (codeAt Try.prog (tn0 19) 19 52) 0 52 { sl := [(1, .l 1 0), (3, .l 3 0), (5, .l 1 0), (7, .l 3 0), (11, .l 3 1), (16, .l 3 1), (21, .l 3 2), (26, .l 3 2), (31, .l 3 3), (36, .l 1 4), (41, .l 1 4), (46, .l 1 5), (52, .l 1 14), (57, .l 1 6), (58, .l 1 13), (63, .l 1 6), (64, .l 1 6), (68, .l 1 6), (69, .l 1 6), (71, .l 1 6), (72, .l 1 13), (74, .l 3 2), (81, .l 1 6), (82, .l 1 7), (87, .l 1 6), (88, .l 1 7), (93, .l 1 6), (94, .l 1 6)], lo := [(1, [I4 (x0), I4 (x1), I4 (x2), I4 (x3), I4 (x4), .d 51 (.list 55 QDy) (x5), I4 (x6), I4 (x7), I4 (x8), I4 (x9), I4 (A), I4 (B), I4 (C), I4 (D), .int .u64 (E)])], h := [], n0 := 0, w := false } cX = (cond (x8 != 0) (cX .ret { sl := [(2, .v (.sc (.bool (false))))], lo := [], h := [], n0 := 0, w := true }) (cond (x9 != 0) (cX .ret { sl := [(2, .v (.sc (.bool (false))))], lo := [], h := [], n0 := 0, w := true }) (cond (A != 0) (cX .ret { sl := [(2, .v (.sc (.bool (false))))], lo := [], h := [], n0 := 0, w := true }) (cond (B != 0) (cX .ret { sl := [(2, .v (.sc (.bool (false))))], lo := [], h := [], n0 := 0, w := true }) (cond (C != 0) (cX .ret { sl := [(2, .v (.sc (.bool (false))))], lo := [], h := [], n0 := 0, w := true }) (cond (ok (L19_92_0 x0 x1 x2 x3 x4 x5 x6 x7 x8 x9 A B C D E)) (cX .ret { sl := [(2, .v (.sc (.bool (val (L19_92_0 x0 x1 x2 x3 x4 x5 x6 x7 x8 x9 A B C D E)))))], lo := [], h := [], n0 := 0, w := true }) none)))))) := by kernel_rfl
theorem lL19_52_1 (k : Nat) (x0 x1 x2 x3 x4 : Int) (x5 : (List (List (PKt × Int)))) (x6 x7 x8 x9 A B C D E : Int) (r : Bool) : L19_52_1 x0 x1 x2 x3 x4 x5 x6 x7 x8 x9 A B C D E = some r → pieceBody Try.prog (mkTn base o37 t37 19) (TM.evF Try.prog (mkTn base o37 t37) dOk (k + 40)) dOk (k + 40) (codeAt Try.prog (tn0 19) 19 52) 0 52 { sl := [(1, .l 1 0), (3, .l 3 0), (5, .l 1 0), (7, .l 3 0), (11, .l 3 1), (16, .l 3 1), (21, .l 3 2), (26, .l 3 2), (31, .l 3 3), (36, .l 1 4), (41, .l 1 4), (46, .l 1 5), (52, .l 1 14), (57, .l 1 6), (58, .l 1 13), (63, .l 1 6), (64, .l 1 6), (68, .l 1 6), (69, .l 1 6), (71, .l 1 6), (72, .l 1 13), (74, .l 3 2), (81, .l 1 6), (82, .l 1 7), (87, .l 1 6), (88, .l 1 7), (93, .l 1 6), (94, .l 1 6)], lo := [(1, [I4 (x0), I4 (x1), I4 (x2), I4 (x3), I4 (x4), .d 51 (.list 55 QDy) (x5), I4 (x6), I4 (x7), I4 (x8), I4 (x9), I4 (A), I4 (B), I4 (C), I4 (D), .int .u64 (E)])], h := [], n0 := 0, w := false } (fun e s => some (e, s)) = some (xL19_52_1 x0 x1 x2 x3 x4 x5 x6 x7 x8 x9 A B C D E r) := by
 rw [bL19_52_1]
 unfold L19_52_1
 refine cond_go ?_ ?_
 intro h; cases h; rfl
 refine cond_go ?_ ?_
 intro h; cases h; rfl
 refine cond_go ?_ ?_
 intro h; cases h; rfl
 refine cond_go ?_ ?_
 intro h; cases h; rfl
 refine cond_go ?_ ?_
 intro h; cases h; rfl
 refine cond_go ?_ ?_
 intro h; cases h; rfl
 intro h; cases h
noncomputable def sL19_52_1 : TellS := fun S => dCS 0 S fun y1 y2 y3 => dSt 1 y1 fun y5 l4 => dL 1 0 y5 <| dSt 3 l4 fun y7 l6 => dL 3 0 y7 <| dSt 5 l6 fun y9 l8 => dL 1 0 y9 <| dSt 7 l8 fun y11 l10 => dL 3 0 y11 <| dSt 11 l10 fun y13 l12 => dL 3 1 y13 <| dSt 16 l12 fun y15 l14 => dL 3 1 y15 <| dSt 21 l14 fun y17 l16 => dL 3 2 y17 <| dSt 26 l16 fun y19 l18 => dL 3 2 y19 <| dSt 31 l18 fun y21 l20 => dL 3 3 y21 <| dSt 36 l20 fun y23 l22 => dL 1 4 y23 <| dSt 41 l22 fun y25 l24 => dL 1 4 y25 <| dSt 46 l24 fun y27 l26 => dL 1 5 y27 <| dSt 52 l26 fun y29 l28 => dL 1 14 y29 <| dSt 57 l28 fun y31 l30 => dL 1 6 y31 <| dSt 58 l30 fun y33 l32 => dL 1 13 y33 <| dSt 63 l32 fun y35 l34 => dL 1 6 y35 <| dSt 64 l34 fun y37 l36 => dL 1 6 y37 <| dSt 68 l36 fun y39 l38 => dL 1 6 y39 <| dSt 69 l38 fun y41 l40 => dL 1 6 y41 <| dSt 71 l40 fun y43 l42 => dL 1 6 y43 <| dSt 72 l42 fun y45 l44 => dL 1 13 y45 <| dSt 74 l44 fun y47 l46 => dL 3 2 y47 <| dSt 81 l46 fun y49 l48 => dL 1 6 y49 <| dSt 82 l48 fun y51 l50 => dL 1 7 y51 <| dSt 87 l50 fun y53 l52 => dL 1 6 y53 <| dSt 88 l52 fun y55 l54 => dL 1 7 y55 <| dSt 93 l54 fun y57 l56 => dL 1 6 y57 <| dSt 94 l56 fun y59 l58 => dL 1 6 y59 <| dE l58 <| dLo 1 y2 fun y60 l61 => dCI .i64 y60 fun x0 l62 => dCI .i64 l62 fun x1 l63 => dCI .i64 l63 fun x2 l64 => dCI .i64 l64 fun x3 l65 => dCI .i64 l65 fun x4 l66 => dC l66 fun y67 l68 => dD 51 (.list 55 QDy) y67 fun x5 => dCI .i64 l68 fun x6 l69 => dCI .i64 l69 fun x7 l70 => dCI .i64 l70 fun x8 l71 => dCI .i64 l71 fun x9 l72 => dCI .i64 l72 fun A l73 => dCI .i64 l73 fun B l74 => dCI .i64 l74 fun C l75 => dCI .i64 l75 fun D l76 => dCI .u64 l76 fun E l77 => dE l77 <| dE l61 <| dE y3 <|  some [(ok (L19_52_1 x0 x1 x2 x3 x4 x5 x6 x7 x8 x9 A B C D E), .ret, { sl := [(2, .v (.sc (.bool ((val (L19_52_1 x0 x1 x2 x3 x4 x5 x6 x7 x8 x9 A B C D E))))))], lo := [], h := [], n0 := 0, w := true })]
theorem wL19_52_1 : NewTell Try.prog dOk base o37 t37 ((19, 52), sL19_52_1) := by
 refine ⟨(codeAt Try.prog (tn0 19) 19 52), 0, by kernel_rfl, ?_⟩
 intro S alts e S' h10 h2
 have h1 : sL19_52_1 S = some alts := h10
 clear h10
 unfold sL19_52_1 at h1
 replace h1 := dCS_some h1; obtain ⟨_, _, _, rfl, h1⟩ := h1
 replace h1 := dSt_some h1; obtain ⟨_, _, rfl, h1⟩ := h1
 replace h1 := dL_some h1; obtain ⟨rfl, h1⟩ := h1
 replace h1 := dSt_some h1; obtain ⟨_, _, rfl, h1⟩ := h1
 replace h1 := dL_some h1; obtain ⟨rfl, h1⟩ := h1
 replace h1 := dSt_some h1; obtain ⟨_, _, rfl, h1⟩ := h1
 replace h1 := dL_some h1; obtain ⟨rfl, h1⟩ := h1
 replace h1 := dSt_some h1; obtain ⟨_, _, rfl, h1⟩ := h1
 replace h1 := dL_some h1; obtain ⟨rfl, h1⟩ := h1
 replace h1 := dSt_some h1; obtain ⟨_, _, rfl, h1⟩ := h1
 replace h1 := dL_some h1; obtain ⟨rfl, h1⟩ := h1
 replace h1 := dSt_some h1; obtain ⟨_, _, rfl, h1⟩ := h1
 replace h1 := dL_some h1; obtain ⟨rfl, h1⟩ := h1
 replace h1 := dSt_some h1; obtain ⟨_, _, rfl, h1⟩ := h1
 replace h1 := dL_some h1; obtain ⟨rfl, h1⟩ := h1
 replace h1 := dSt_some h1; obtain ⟨_, _, rfl, h1⟩ := h1
 replace h1 := dL_some h1; obtain ⟨rfl, h1⟩ := h1
 replace h1 := dSt_some h1; obtain ⟨_, _, rfl, h1⟩ := h1
 replace h1 := dL_some h1; obtain ⟨rfl, h1⟩ := h1
 replace h1 := dSt_some h1; obtain ⟨_, _, rfl, h1⟩ := h1
 replace h1 := dL_some h1; obtain ⟨rfl, h1⟩ := h1
 replace h1 := dSt_some h1; obtain ⟨_, _, rfl, h1⟩ := h1
 replace h1 := dL_some h1; obtain ⟨rfl, h1⟩ := h1
 replace h1 := dSt_some h1; obtain ⟨_, _, rfl, h1⟩ := h1
 replace h1 := dL_some h1; obtain ⟨rfl, h1⟩ := h1
 replace h1 := dSt_some h1; obtain ⟨_, _, rfl, h1⟩ := h1
 replace h1 := dL_some h1; obtain ⟨rfl, h1⟩ := h1
 replace h1 := dSt_some h1; obtain ⟨_, _, rfl, h1⟩ := h1
 replace h1 := dL_some h1; obtain ⟨rfl, h1⟩ := h1
 replace h1 := dSt_some h1; obtain ⟨_, _, rfl, h1⟩ := h1
 replace h1 := dL_some h1; obtain ⟨rfl, h1⟩ := h1
 replace h1 := dSt_some h1; obtain ⟨_, _, rfl, h1⟩ := h1
 replace h1 := dL_some h1; obtain ⟨rfl, h1⟩ := h1
 replace h1 := dSt_some h1; obtain ⟨_, _, rfl, h1⟩ := h1
 replace h1 := dL_some h1; obtain ⟨rfl, h1⟩ := h1
 replace h1 := dSt_some h1; obtain ⟨_, _, rfl, h1⟩ := h1
 replace h1 := dL_some h1; obtain ⟨rfl, h1⟩ := h1
 replace h1 := dSt_some h1; obtain ⟨_, _, rfl, h1⟩ := h1
 replace h1 := dL_some h1; obtain ⟨rfl, h1⟩ := h1
 replace h1 := dSt_some h1; obtain ⟨_, _, rfl, h1⟩ := h1
 replace h1 := dL_some h1; obtain ⟨rfl, h1⟩ := h1
 replace h1 := dSt_some h1; obtain ⟨_, _, rfl, h1⟩ := h1
 replace h1 := dL_some h1; obtain ⟨rfl, h1⟩ := h1
 replace h1 := dSt_some h1; obtain ⟨_, _, rfl, h1⟩ := h1
 replace h1 := dL_some h1; obtain ⟨rfl, h1⟩ := h1
 replace h1 := dSt_some h1; obtain ⟨_, _, rfl, h1⟩ := h1
 replace h1 := dL_some h1; obtain ⟨rfl, h1⟩ := h1
 replace h1 := dSt_some h1; obtain ⟨_, _, rfl, h1⟩ := h1
 replace h1 := dL_some h1; obtain ⟨rfl, h1⟩ := h1
 replace h1 := dSt_some h1; obtain ⟨_, _, rfl, h1⟩ := h1
 replace h1 := dL_some h1; obtain ⟨rfl, h1⟩ := h1
 replace h1 := dSt_some h1; obtain ⟨_, _, rfl, h1⟩ := h1
 replace h1 := dL_some h1; obtain ⟨rfl, h1⟩ := h1
 replace h1 := dSt_some h1; obtain ⟨_, _, rfl, h1⟩ := h1
 replace h1 := dL_some h1; obtain ⟨rfl, h1⟩ := h1
 replace h1 := dSt_some h1; obtain ⟨_, _, rfl, h1⟩ := h1
 replace h1 := dL_some h1; obtain ⟨rfl, h1⟩ := h1
 replace h1 := dE_some h1; obtain ⟨rfl, h1⟩ := h1
 replace h1 := dLo_some h1; obtain ⟨_, _, rfl, h1⟩ := h1
 replace h1 := dCI_some h1; obtain ⟨_, _, rfl, h1⟩ := h1
 replace h1 := dCI_some h1; obtain ⟨_, _, rfl, h1⟩ := h1
 replace h1 := dCI_some h1; obtain ⟨_, _, rfl, h1⟩ := h1
 replace h1 := dCI_some h1; obtain ⟨_, _, rfl, h1⟩ := h1
 replace h1 := dCI_some h1; obtain ⟨_, _, rfl, h1⟩ := h1
 replace h1 := dC_some h1; obtain ⟨_, _, rfl, h1⟩ := h1
 replace h1 := dD_some h1; obtain ⟨_, rfl, h1⟩ := h1
 replace h1 := dCI_some h1; obtain ⟨_, _, rfl, h1⟩ := h1
 replace h1 := dCI_some h1; obtain ⟨_, _, rfl, h1⟩ := h1
 replace h1 := dCI_some h1; obtain ⟨_, _, rfl, h1⟩ := h1
 replace h1 := dCI_some h1; obtain ⟨_, _, rfl, h1⟩ := h1
 replace h1 := dCI_some h1; obtain ⟨_, _, rfl, h1⟩ := h1
 replace h1 := dCI_some h1; obtain ⟨_, _, rfl, h1⟩ := h1
 replace h1 := dCI_some h1; obtain ⟨_, _, rfl, h1⟩ := h1
 replace h1 := dCI_some h1; obtain ⟨_, _, rfl, h1⟩ := h1
 replace h1 := dCI_some h1; obtain ⟨_, _, rfl, h1⟩ := h1
 replace h1 := dE_some h1; obtain ⟨rfl, h1⟩ := h1
 replace h1 := dE_some h1; obtain ⟨rfl, h1⟩ := h1
 replace h1 := dE_some h1; obtain ⟨rfl, h1⟩ := h1
 cases h1
 obtain ⟨hc0, rfl, rfl⟩ := pick_one h2
 exact ⟨0 + 40, (evPiece_code rfl).trans (lL19_52_1 0 _ _ _ _ _ _ _ _ _ _ _ _ _ _ _ _ (ok_val hc0))⟩
noncomputable def o38 : OrcT := o37
noncomputable def t38 : TellT := ((19, 52), sL19_52_0) :: ((19, 52), sL19_52_1) :: t37
noncomputable abbrev tn38 : FuncId → TAn := mkTn base o38 t38
theorem ok38 : TnOk Try.prog tn38 (mkA base) dOk := by
 have h0 : TnOk Try.prog (mkTn base o37 t37) (mkA base) dOk := ok37
 have h1 := tn_tell h0 h0 (p := ((19, 52), sL19_52_1)) wL19_52_1
 have h2 := tn_tell h0 h1 (p := ((19, 52), sL19_52_0)) wL19_52_0
 exact h2
noncomputable def L19_36_0 (x0 x1 x2 x3 x4 : Int) (x5 : (List (List (PKt × Int)))) (x6 x7 x8 x9 A B C D E F G I J : Int) : Option Bool := (cond (decide (x6 < 0)) (some (false)) (cond (decide (x6 > IntKind.wrap IntKind.i64 (IntKind.wrap IntKind.i64 (D + I) + (1 : Int)))) (some (false)) (cond (decide (x7 < 0)) (some (false)) (cond (decide (x7 > (1000000000 : Int))) (some (false)) (cond (x6 == 0) (cond (x7 != 0) (some (false)) (cond (ok (L19_52_0 x0 x1 x2 x3 x4 x5 x6 x7 x8 x9 A B C D E)) (some (val (L19_52_0 x0 x1 x2 x3 x4 x5 x6 x7 x8 x9 A B C D E))) none)) (cond (ok (L19_52_1 x0 x1 x2 x3 x4 x5 x6 x7 x8 x9 A B C D E)) (some (val (L19_52_1 x0 x1 x2 x3 x4 x5 x6 x7 x8 x9 A B C D E))) none))))))
noncomputable def xL19_36_0 (x0 x1 x2 x3 x4 : Int) (x5 : (List (List (PKt × Int)))) (x6 x7 x8 x9 A B C D E F G I J : Int) : Bool → Ex × CS := fun r => (.ret, { sl := [(2, .v (.sc (.bool (r))))], lo := [], h := [], n0 := 0, w := true })
theorem bL19_36_0 (k : Nat) (cX : Ex → CS → Option (Ex × CS)) (x0 x1 x2 x3 x4 : Int) (x5 : (List (List (PKt × Int)))) (x6 x7 x8 x9 A B C D E F G I J : Int) : pieceBody Try.prog (mkTn base o38 t38 19) (TM.evF Try.prog (mkTn base o38 t38) dOk (k + 40)) dOk (k + 40) (codeAt Try.prog (tn0 19) 19 36) 0 36 { sl := [(1, .l 1 0), (3, .l 3 0), (5, .l 1 0), (7, .l 3 0), (11, .l 3 1), (16, .l 3 1), (21, .l 3 2), (26, .l 3 2), (31, .l 3 3), (36, .l 1 4), (41, .l 1 4), (46, .l 1 5), (52, .l 1 14), (57, .l 1 6), (58, .l 1 13)], lo := [(1, [I4 (x0), I4 (x1), I4 (x2), I4 (x3), I4 (x4), .d 51 (.list 55 QDy) (x5), I4 (x6), I4 (x7), I4 (x8), I4 (x9), I4 (A), I4 (B), I4 (C), I4 (D), .int .u64 (E)]), (3, [I4 (F), I4 (G), I4 (I), I4 (J)])], h := [], n0 := 0, w := false } cX = (cond (decide (x6 < 0)) (cX .ret { sl := [(2, .v (.sc (.bool (false))))], lo := [], h := [], n0 := 0, w := true }) (cond (decide (x6 > IntKind.wrap IntKind.i64 (IntKind.wrap IntKind.i64 (D + I) + (1 : Int)))) (cX .ret { sl := [(2, .v (.sc (.bool (false))))], lo := [], h := [], n0 := 0, w := true }) (cond (decide (x7 < 0)) (cX .ret { sl := [(2, .v (.sc (.bool (false))))], lo := [], h := [], n0 := 0, w := true }) (cond (decide (x7 > (1000000000 : Int))) (cX .ret { sl := [(2, .v (.sc (.bool (false))))], lo := [], h := [], n0 := 0, w := true }) (cond (x6 == 0) (cond (x7 != 0) (cX .ret { sl := [(2, .v (.sc (.bool (false))))], lo := [], h := [], n0 := 0, w := true }) (cond (ok (L19_52_0 x0 x1 x2 x3 x4 x5 x6 x7 x8 x9 A B C D E)) (cX .ret { sl := [(2, .v (.sc (.bool (val (L19_52_0 x0 x1 x2 x3 x4 x5 x6 x7 x8 x9 A B C D E)))))], lo := [], h := [], n0 := 0, w := true }) none)) (cond (ok (L19_52_1 x0 x1 x2 x3 x4 x5 x6 x7 x8 x9 A B C D E)) (cX .ret { sl := [(2, .v (.sc (.bool (val (L19_52_1 x0 x1 x2 x3 x4 x5 x6 x7 x8 x9 A B C D E)))))], lo := [], h := [], n0 := 0, w := true }) none)))))) := by kernel_rfl
theorem lL19_36_0 (k : Nat) (x0 x1 x2 x3 x4 : Int) (x5 : (List (List (PKt × Int)))) (x6 x7 x8 x9 A B C D E F G I J : Int) (r : Bool) : L19_36_0 x0 x1 x2 x3 x4 x5 x6 x7 x8 x9 A B C D E F G I J = some r → pieceBody Try.prog (mkTn base o38 t38 19) (TM.evF Try.prog (mkTn base o38 t38) dOk (k + 40)) dOk (k + 40) (codeAt Try.prog (tn0 19) 19 36) 0 36 { sl := [(1, .l 1 0), (3, .l 3 0), (5, .l 1 0), (7, .l 3 0), (11, .l 3 1), (16, .l 3 1), (21, .l 3 2), (26, .l 3 2), (31, .l 3 3), (36, .l 1 4), (41, .l 1 4), (46, .l 1 5), (52, .l 1 14), (57, .l 1 6), (58, .l 1 13)], lo := [(1, [I4 (x0), I4 (x1), I4 (x2), I4 (x3), I4 (x4), .d 51 (.list 55 QDy) (x5), I4 (x6), I4 (x7), I4 (x8), I4 (x9), I4 (A), I4 (B), I4 (C), I4 (D), .int .u64 (E)]), (3, [I4 (F), I4 (G), I4 (I), I4 (J)])], h := [], n0 := 0, w := false } (fun e s => some (e, s)) = some (xL19_36_0 x0 x1 x2 x3 x4 x5 x6 x7 x8 x9 A B C D E F G I J r) := by
 rw [bL19_36_0]
 unfold L19_36_0
 refine cond_go ?_ ?_
 intro h; cases h; rfl
 refine cond_go ?_ ?_
 intro h; cases h; rfl
 refine cond_go ?_ ?_
 intro h; cases h; rfl
 refine cond_go ?_ ?_
 intro h; cases h; rfl
 refine cond_go ?_ ?_
 refine cond_go ?_ ?_
 intro h; cases h; rfl
 refine cond_go ?_ ?_
 intro h; cases h; rfl
 intro h; cases h
 refine cond_go ?_ ?_
 intro h; cases h; rfl
 intro h; cases h
noncomputable def sL19_36_0 : TellS := fun S => dCS 0 S fun y1 y2 y3 => dSt 1 y1 fun y5 l4 => dL 1 0 y5 <| dSt 3 l4 fun y7 l6 => dL 3 0 y7 <| dSt 5 l6 fun y9 l8 => dL 1 0 y9 <| dSt 7 l8 fun y11 l10 => dL 3 0 y11 <| dSt 11 l10 fun y13 l12 => dL 3 1 y13 <| dSt 16 l12 fun y15 l14 => dL 3 1 y15 <| dSt 21 l14 fun y17 l16 => dL 3 2 y17 <| dSt 26 l16 fun y19 l18 => dL 3 2 y19 <| dSt 31 l18 fun y21 l20 => dL 3 3 y21 <| dSt 36 l20 fun y23 l22 => dL 1 4 y23 <| dSt 41 l22 fun y25 l24 => dL 1 4 y25 <| dSt 46 l24 fun y27 l26 => dL 1 5 y27 <| dSt 52 l26 fun y29 l28 => dL 1 14 y29 <| dSt 57 l28 fun y31 l30 => dL 1 6 y31 <| dSt 58 l30 fun y33 l32 => dL 1 13 y33 <| dE l32 <| dLo 1 y2 fun y34 l35 => dCI .i64 y34 fun x0 l36 => dCI .i64 l36 fun x1 l37 => dCI .i64 l37 fun x2 l38 => dCI .i64 l38 fun x3 l39 => dCI .i64 l39 fun x4 l40 => dC l40 fun y41 l42 => dD 51 (.list 55 QDy) y41 fun x5 => dCI .i64 l42 fun x6 l43 => dCI .i64 l43 fun x7 l44 => dCI .i64 l44 fun x8 l45 => dCI .i64 l45 fun x9 l46 => dCI .i64 l46 fun A l47 => dCI .i64 l47 fun B l48 => dCI .i64 l48 fun C l49 => dCI .i64 l49 fun D l50 => dCI .u64 l50 fun E l51 => dE l51 <| dLo 3 l35 fun y52 l53 => dCI .i64 y52 fun F l54 => dCI .i64 l54 fun G l55 => dCI .i64 l55 fun I l56 => dCI .i64 l56 fun J l57 => dE l57 <| dE l53 <| dE y3 <|  some [(ok (L19_36_0 x0 x1 x2 x3 x4 x5 x6 x7 x8 x9 A B C D E F G I J), .ret, { sl := [(2, .v (.sc (.bool ((val (L19_36_0 x0 x1 x2 x3 x4 x5 x6 x7 x8 x9 A B C D E F G I J))))))], lo := [], h := [], n0 := 0, w := true })]
theorem wL19_36_0 : NewTell Try.prog dOk base o38 t38 ((19, 36), sL19_36_0) := by
 refine ⟨(codeAt Try.prog (tn0 19) 19 36), 0, by kernel_rfl, ?_⟩
 intro S alts e S' h10 h2
 have h1 : sL19_36_0 S = some alts := h10
 clear h10
 unfold sL19_36_0 at h1
 replace h1 := dCS_some h1; obtain ⟨_, _, _, rfl, h1⟩ := h1
 replace h1 := dSt_some h1; obtain ⟨_, _, rfl, h1⟩ := h1
 replace h1 := dL_some h1; obtain ⟨rfl, h1⟩ := h1
 replace h1 := dSt_some h1; obtain ⟨_, _, rfl, h1⟩ := h1
 replace h1 := dL_some h1; obtain ⟨rfl, h1⟩ := h1
 replace h1 := dSt_some h1; obtain ⟨_, _, rfl, h1⟩ := h1
 replace h1 := dL_some h1; obtain ⟨rfl, h1⟩ := h1
 replace h1 := dSt_some h1; obtain ⟨_, _, rfl, h1⟩ := h1
 replace h1 := dL_some h1; obtain ⟨rfl, h1⟩ := h1
 replace h1 := dSt_some h1; obtain ⟨_, _, rfl, h1⟩ := h1
 replace h1 := dL_some h1; obtain ⟨rfl, h1⟩ := h1
 replace h1 := dSt_some h1; obtain ⟨_, _, rfl, h1⟩ := h1
 replace h1 := dL_some h1; obtain ⟨rfl, h1⟩ := h1
 replace h1 := dSt_some h1; obtain ⟨_, _, rfl, h1⟩ := h1
 replace h1 := dL_some h1; obtain ⟨rfl, h1⟩ := h1
 replace h1 := dSt_some h1; obtain ⟨_, _, rfl, h1⟩ := h1
 replace h1 := dL_some h1; obtain ⟨rfl, h1⟩ := h1
 replace h1 := dSt_some h1; obtain ⟨_, _, rfl, h1⟩ := h1
 replace h1 := dL_some h1; obtain ⟨rfl, h1⟩ := h1
 replace h1 := dSt_some h1; obtain ⟨_, _, rfl, h1⟩ := h1
 replace h1 := dL_some h1; obtain ⟨rfl, h1⟩ := h1
 replace h1 := dSt_some h1; obtain ⟨_, _, rfl, h1⟩ := h1
 replace h1 := dL_some h1; obtain ⟨rfl, h1⟩ := h1
 replace h1 := dSt_some h1; obtain ⟨_, _, rfl, h1⟩ := h1
 replace h1 := dL_some h1; obtain ⟨rfl, h1⟩ := h1
 replace h1 := dSt_some h1; obtain ⟨_, _, rfl, h1⟩ := h1
 replace h1 := dL_some h1; obtain ⟨rfl, h1⟩ := h1
 replace h1 := dSt_some h1; obtain ⟨_, _, rfl, h1⟩ := h1
 replace h1 := dL_some h1; obtain ⟨rfl, h1⟩ := h1
 replace h1 := dSt_some h1; obtain ⟨_, _, rfl, h1⟩ := h1
 replace h1 := dL_some h1; obtain ⟨rfl, h1⟩ := h1
 replace h1 := dE_some h1; obtain ⟨rfl, h1⟩ := h1
 replace h1 := dLo_some h1; obtain ⟨_, _, rfl, h1⟩ := h1
 replace h1 := dCI_some h1; obtain ⟨_, _, rfl, h1⟩ := h1
 replace h1 := dCI_some h1; obtain ⟨_, _, rfl, h1⟩ := h1
 replace h1 := dCI_some h1; obtain ⟨_, _, rfl, h1⟩ := h1
 replace h1 := dCI_some h1; obtain ⟨_, _, rfl, h1⟩ := h1
 replace h1 := dCI_some h1; obtain ⟨_, _, rfl, h1⟩ := h1
 replace h1 := dC_some h1; obtain ⟨_, _, rfl, h1⟩ := h1
 replace h1 := dD_some h1; obtain ⟨_, rfl, h1⟩ := h1
 replace h1 := dCI_some h1; obtain ⟨_, _, rfl, h1⟩ := h1
 replace h1 := dCI_some h1; obtain ⟨_, _, rfl, h1⟩ := h1
 replace h1 := dCI_some h1; obtain ⟨_, _, rfl, h1⟩ := h1
 replace h1 := dCI_some h1; obtain ⟨_, _, rfl, h1⟩ := h1
 replace h1 := dCI_some h1; obtain ⟨_, _, rfl, h1⟩ := h1
 replace h1 := dCI_some h1; obtain ⟨_, _, rfl, h1⟩ := h1
 replace h1 := dCI_some h1; obtain ⟨_, _, rfl, h1⟩ := h1
 replace h1 := dCI_some h1; obtain ⟨_, _, rfl, h1⟩ := h1
 replace h1 := dCI_some h1; obtain ⟨_, _, rfl, h1⟩ := h1
 replace h1 := dE_some h1; obtain ⟨rfl, h1⟩ := h1
 replace h1 := dLo_some h1; obtain ⟨_, _, rfl, h1⟩ := h1
 replace h1 := dCI_some h1; obtain ⟨_, _, rfl, h1⟩ := h1
 replace h1 := dCI_some h1; obtain ⟨_, _, rfl, h1⟩ := h1
 replace h1 := dCI_some h1; obtain ⟨_, _, rfl, h1⟩ := h1
 replace h1 := dCI_some h1; obtain ⟨_, _, rfl, h1⟩ := h1
 replace h1 := dE_some h1; obtain ⟨rfl, h1⟩ := h1
 replace h1 := dE_some h1; obtain ⟨rfl, h1⟩ := h1
 replace h1 := dE_some h1; obtain ⟨rfl, h1⟩ := h1
 cases h1
 obtain ⟨hc0, rfl, rfl⟩ := pick_one h2
 exact ⟨0 + 40, (evPiece_code rfl).trans (lL19_36_0 0 _ _ _ _ _ _ _ _ _ _ _ _ _ _ _ _ _ _ _ _ (ok_val hc0))⟩
noncomputable def o39 : OrcT := o38
noncomputable def t39 : TellT := ((19, 36), sL19_36_0) :: t38
noncomputable abbrev tn39 : FuncId → TAn := mkTn base o39 t39
theorem ok39 : TnOk Try.prog tn39 (mkA base) dOk := by
 have h0 : TnOk Try.prog (mkTn base o38 t38) (mkA base) dOk := ok38
 have h1 := tn_tell h0 h0 (p := ((19, 36), sL19_36_0)) wL19_36_0
 exact h1
noncomputable def v19 (x0 x1 x2 x3 x4 : Int) (x5 : (List (List (PKt × Int)))) (x6 x7 x8 x9 A B C D E : Int) : Option Bool := (cond (x0 != (3 : Int)) (some (false)) (cond (decide (x1 < 0)) (some (false)) (cond (decide (x1 > (1000000 : Int))) (some (false)) (cond (decide (x2 < (1 : Int))) (some (false)) (cond (decide (x2 > (1000000 : Int))) (some (false)) (cond (x3 != 0) (some (false)) (cond (decide (x4 < (1 : Int))) (some (false)) (cond (decide (x4 > (500 : Int))) (some (false)) (cond ((↑(List.length x5) : Int) != (1 : Int)) (some (false)) (cond (E != 0) (some (false)) (cond (ok (v26 D)) (cond (!val (v26 D)) (some (false)) (cond (ok (L19_36_0 x0 x1 x2 x3 x4 x5 x6 x7 x8 x9 A B C D E x0 x1 x2 x3)) (some (val (L19_36_0 x0 x1 x2 x3 x4 x5 x6 x7 x8 x9 A B C D E x0 x1 x2 x3))) none)) none)))))))))))
theorem ev19 (x0 x1 x2 x3 x4 : Int) (x5 : (List (List (PKt × Int)))) (x6 x7 x8 x9 A B C D E : Int) : fnBody Try.prog (mkTn base o39 t39 19) (TM.evF Try.prog (mkTn base o39 t39) dOk 40) dOk 40 19 [.agg [I4 (x0), I4 (x1), I4 (x2), I4 (x3), I4 (x4), .d 51 (.list 55 QDy) (x5), I4 (x6), I4 (x7), I4 (x8), I4 (x9), I4 (A), I4 (B), I4 (C), I4 (D), .int .u64 (E)]] [] = (v19 x0 x1 x2 x3 x4 x5 x6 x7 x8 x9 A B C D E).bind fun r => some ([.sc (.bool (r))], []) := by
 refine Eq.trans (b := (cond (x0 != (3 : Int)) (some ([.sc (.bool (false))], [])) (cond (decide (x1 < 0)) (some ([.sc (.bool (false))], [])) (cond (decide (x1 > (1000000 : Int))) (some ([.sc (.bool (false))], [])) (cond (decide (x2 < (1 : Int))) (some ([.sc (.bool (false))], [])) (cond (decide (x2 > (1000000 : Int))) (some ([.sc (.bool (false))], [])) (cond (x3 != 0) (some ([.sc (.bool (false))], [])) (cond (decide (x4 < (1 : Int))) (some ([.sc (.bool (false))], [])) (cond (decide (x4 > (500 : Int))) (some ([.sc (.bool (false))], [])) (cond ((↑(List.length x5) : Int) != (1 : Int)) (some ([.sc (.bool (false))], [])) (cond (E != 0) (some ([.sc (.bool (false))], [])) (cond (ok (v26 D)) (cond (!val (v26 D)) (some ([.sc (.bool (false))], [])) (cond (ok (L19_36_0 x0 x1 x2 x3 x4 x5 x6 x7 x8 x9 A B C D E x0 x1 x2 x3)) (some ([.sc (.bool (val (L19_36_0 x0 x1 x2 x3 x4 x5 x6 x7 x8 x9 A B C D E x0 x1 x2 x3)))], [])) none)) none)))))))))))) (by kernel_rfl) ?_
 unfold v19
 refine cond_bd ?_ ?_
 rfl
 refine cond_bd ?_ ?_
 rfl
 refine cond_bd ?_ ?_
 rfl
 refine cond_bd ?_ ?_
 rfl
 refine cond_bd ?_ ?_
 rfl
 refine cond_bd ?_ ?_
 rfl
 refine cond_bd ?_ ?_
 rfl
 refine cond_bd ?_ ?_
 rfl
 refine cond_bd ?_ ?_
 rfl
 refine cond_bd ?_ ?_
 rfl
 refine cond_bd ?_ ?_
 refine cond_bd ?_ ?_
 rfl
 refine cond_bd ?_ ?_
 rfl
 rfl
 rfl
noncomputable def sv19 : OrcS := fun al H => dC al fun y1 l2 => dA y1 fun y3 => dCI .i64 y3 fun x0 l4 => dCI .i64 l4 fun x1 l5 => dCI .i64 l5 fun x2 l6 => dCI .i64 l6 fun x3 l7 => dCI .i64 l7 fun x4 l8 => dC l8 fun y9 l10 => dD 51 (.list 55 QDy) y9 fun x5 => dCI .i64 l10 fun x6 l11 => dCI .i64 l11 fun x7 l12 => dCI .i64 l12 fun x8 l13 => dCI .i64 l13 fun x9 l14 => dCI .i64 l14 fun A l15 => dCI .i64 l15 fun B l16 => dCI .i64 l16 fun C l17 => dCI .i64 l17 fun D l18 => dCI .u64 l18 fun E l19 => dE l19 <| dE l2 <| dE H <|  some [(ok (v19 x0 x1 x2 x3 x4 x5 x6 x7 x8 x9 A B C D E), [.sc (.bool ((val (v19 x0 x1 x2 x3 x4 x5 x6 x7 x8 x9 A B C D E))))], [])]
theorem wv19 : NewOrc Try.prog dOk base o39 t39 (19, sv19) := by
 intro al H q hq0 rs H2 h2
 have hq : sv19 al H = some q := hq0
 clear hq0
 unfold sv19 at hq
 replace hq := dC_some hq; obtain ⟨_, _, rfl, hq⟩ := hq
 replace hq := dA_some hq; obtain ⟨_, rfl, hq⟩ := hq
 replace hq := dCI_some hq; obtain ⟨_, _, rfl, hq⟩ := hq
 replace hq := dCI_some hq; obtain ⟨_, _, rfl, hq⟩ := hq
 replace hq := dCI_some hq; obtain ⟨_, _, rfl, hq⟩ := hq
 replace hq := dCI_some hq; obtain ⟨_, _, rfl, hq⟩ := hq
 replace hq := dCI_some hq; obtain ⟨_, _, rfl, hq⟩ := hq
 replace hq := dC_some hq; obtain ⟨_, _, rfl, hq⟩ := hq
 replace hq := dD_some hq; obtain ⟨_, rfl, hq⟩ := hq
 replace hq := dCI_some hq; obtain ⟨_, _, rfl, hq⟩ := hq
 replace hq := dCI_some hq; obtain ⟨_, _, rfl, hq⟩ := hq
 replace hq := dCI_some hq; obtain ⟨_, _, rfl, hq⟩ := hq
 replace hq := dCI_some hq; obtain ⟨_, _, rfl, hq⟩ := hq
 replace hq := dCI_some hq; obtain ⟨_, _, rfl, hq⟩ := hq
 replace hq := dCI_some hq; obtain ⟨_, _, rfl, hq⟩ := hq
 replace hq := dCI_some hq; obtain ⟨_, _, rfl, hq⟩ := hq
 replace hq := dCI_some hq; obtain ⟨_, _, rfl, hq⟩ := hq
 replace hq := dCI_some hq; obtain ⟨_, _, rfl, hq⟩ := hq
 replace hq := dE_some hq; obtain ⟨rfl, hq⟩ := hq
 replace hq := dE_some hq; obtain ⟨rfl, hq⟩ := hq
 replace hq := dE_some hq; obtain ⟨rfl, hq⟩ := hq
 cases hq
 obtain ⟨hc0, rfl, rfl⟩ := pickR_one h2
 exact ⟨41, (fn_eq (by kernel_rfl)).trans ((ev19 _ _ _ _ _ _ _ _ _ _ _ _ _ _ _).trans (bind_of (ok_val hc0)))⟩
noncomputable def o40 : OrcT := (19, sv19) :: o39
noncomputable def t40 : TellT := t39
noncomputable abbrev tn40 : FuncId → TAn := mkTn base o40 t40
theorem ok40 : TnOk Try.prog tn40 (mkA base) dOk := by
 have h0 : TnOk Try.prog (mkTn base o39 t39) (mkA base) dOk := ok39
 have h1 := tn_orc h0 h0 (p := (19, sv19)) wv19
 exact h1
noncomputable def L23_0_0 : Nat → (List (PKt × Int)) → Int → Int → Int → Int → Int → Int → Int → Int → Bool → Bool → Option (Bool ⊕ Unit)
 | 0, _, _, _, _, _, _, _, _, _, _, _ => none
 | n + 1, x0, x1, x2, x3, x4, x5, x6, x7, x8, x9, A => (cond (decide (x2 < x1)) (cond (decide (0 ≤ x2)) (cond (decide (x2 < (↑(List.length x0) : Int))) (cond (Prod.fst (Prod.fst (List.getD x0 (Int.toNat x2) (PKz, (0 : Int)))) == x3 && (Prod.fst (Prod.snd (Prod.fst (List.getD x0 (Int.toNat x2) (PKz, (0 : Int))))) == x4 && (Prod.fst (Prod.snd (Prod.snd (Prod.fst (List.getD x0 (Int.toNat x2) (PKz, (0 : Int)))))) == x5 && (Prod.fst (Prod.snd (Prod.snd (Prod.snd (Prod.fst (List.getD x0 (Int.toNat x2) (PKz, (0 : Int))))))) == x6 && (Prod.fst (Prod.snd (Prod.snd (Prod.snd (Prod.snd (Prod.fst (List.getD x0 (Int.toNat x2) (PKz, (0 : Int)))))))) == x7 && (Prod.fst (Prod.snd (Prod.snd (Prod.snd (Prod.snd (Prod.snd (Prod.fst (List.getD x0 (Int.toNat x2) (PKz, (0 : Int))))))))) == x8 && (Prod.fst (Prod.snd (Prod.snd (Prod.snd (Prod.snd (Prod.snd (Prod.snd (Prod.fst (List.getD x0 (Int.toNat x2) (PKz, (0 : Int)))))))))) == x9 && (Prod.snd (Prod.snd (Prod.snd (Prod.snd (Prod.snd (Prod.snd (Prod.snd (Prod.fst (List.getD x0 (Int.toNat x2) (PKz, (0 : Int)))))))))) == A && true)))))))) (some (.inl (true))) (L23_0_0 n (x0) (x1) (IntKind.wrap IntKind.i64 (x2 + (1 : Int))) (x3) (x4) (x5) (x6) (x7) (x8) (x9) (A))) none) none) (some (.inr ())))
theorem qL23_0_0 : type_of% @L23_0_0.eq_2 := @L23_0_0.eq_2
noncomputable def xL23_0_0 (x0 : (List (PKt × Int))) (x1 x2 x3 x4 x5 x6 x7 x8 : Int) (x9 : Bool) (A : Bool) : (Bool ⊕ Unit) → Ex × CS := fun r => match r with | .inl a0 => (.ret, { sl := [(4, .v (.sc (.bool (a0))))], lo := [], h := [], n0 := 0, w := true }) | .inr b0 => ((.exit 0), { sl := [(3, .l 3 0)], lo := [], h := [], n0 := 0, w := false })
theorem bL23_0_0 (k : Nat) (cN : CS → Option (Ex × CS)) (cX : Ex → CS → Option (Ex × CS)) (x0 : (List (PKt × Int))) (x1 x2 x3 x4 x5 x6 x7 x8 : Int) (x9 : Bool) (A : Bool) : loopBody Try.prog (mkTn base o40 t40 23) (TM.evF Try.prog (mkTn base o40 t40) dOk (k + 40)) dOk (k + 40) (codeAt Try.prog (tn0 23) 23 0) 0 0 { sl := [(3, .l 3 0), (7, .v (.sc (.d 55 QDy (x0)))), (8, .v (.sc (I4 (x1)))), (9, .v (.sc (I4 (x2))))], lo := [(3, [I4 (x3), I4 (x4), I4 (x5), I4 (x6), I4 (x7), I4 (x8), .bool (x9), .bool (A)])], h := [], n0 := 0, w := false } cN cX = (cond (decide (x2 < x1)) (cond (decide (0 ≤ x2)) (cond (decide (x2 < (↑(List.length x0) : Int))) (cond (Prod.fst (Prod.fst (List.getD x0 (Int.toNat x2) (PKz, (0 : Int)))) == x3 && (Prod.fst (Prod.snd (Prod.fst (List.getD x0 (Int.toNat x2) (PKz, (0 : Int))))) == x4 && (Prod.fst (Prod.snd (Prod.snd (Prod.fst (List.getD x0 (Int.toNat x2) (PKz, (0 : Int)))))) == x5 && (Prod.fst (Prod.snd (Prod.snd (Prod.snd (Prod.fst (List.getD x0 (Int.toNat x2) (PKz, (0 : Int))))))) == x6 && (Prod.fst (Prod.snd (Prod.snd (Prod.snd (Prod.snd (Prod.fst (List.getD x0 (Int.toNat x2) (PKz, (0 : Int)))))))) == x7 && (Prod.fst (Prod.snd (Prod.snd (Prod.snd (Prod.snd (Prod.snd (Prod.fst (List.getD x0 (Int.toNat x2) (PKz, (0 : Int))))))))) == x8 && (Prod.fst (Prod.snd (Prod.snd (Prod.snd (Prod.snd (Prod.snd (Prod.snd (Prod.fst (List.getD x0 (Int.toNat x2) (PKz, (0 : Int)))))))))) == x9 && (Prod.snd (Prod.snd (Prod.snd (Prod.snd (Prod.snd (Prod.snd (Prod.snd (Prod.fst (List.getD x0 (Int.toNat x2) (PKz, (0 : Int)))))))))) == A && true)))))))) (cX .ret { sl := [(4, .v (.sc (.bool (true))))], lo := [], h := [], n0 := 0, w := true }) (cN { sl := [(3, .l 3 0), (7, .v (.sc (.d 55 QDy (x0)))), (8, .v (.sc (I4 (x1)))), (9, .v (.sc (I4 (IntKind.wrap IntKind.i64 (x2 + (1 : Int))))))], lo := [(3, [I4 (x3), I4 (x4), I4 (x5), I4 (x6), I4 (x7), I4 (x8), .bool (x9), .bool (A)])], h := [], n0 := 0, w := false })) none) none) (cX (.exit 0) { sl := [(3, .l 3 0)], lo := [], h := [], n0 := 0, w := false })) := by kernel_rfl
theorem lL23_0_0 (k m : Nat) : ∀ (n : Nat) (x0 : (List (PKt × Int))) (x1 x2 x3 x4 x5 x6 x7 x8 : Int) (x9 : Bool) (A : Bool) (r : (Bool ⊕ Unit)), L23_0_0 n x0 x1 x2 x3 x4 x5 x6 x7 x8 x9 A = some r → loopE Try.prog (mkTn base o40 t40 23) (TM.evF Try.prog (mkTn base o40 t40) dOk (k + 40)) dOk (k + 40) (codeAt Try.prog (tn0 23) 23 0) 0 0 (n + m) { sl := [(3, .l 3 0), (7, .v (.sc (.d 55 QDy (x0)))), (8, .v (.sc (I4 (x1)))), (9, .v (.sc (I4 (x2))))], lo := [(3, [I4 (x3), I4 (x4), I4 (x5), I4 (x6), I4 (x7), I4 (x8), .bool (x9), .bool (A)])], h := [], n0 := 0, w := false } = some (xL23_0_0 x0 x1 x2 x3 x4 x5 x6 x7 x8 x9 A r) := by
 intro n
 induction n with
 | zero => intro _ _ _ _ _ _ _ _ _ _ _ r h; cases h
 | succ n ih =>
  intro x0 x1 x2 x3 x4 x5 x6 x7 x8 x9 A r
  rw [show n + 1 + m = n + m + 1 by omega, loop_step, bL23_0_0, qL23_0_0]
  refine cond_go ?_ ?_
  refine cond_go ?_ ?_
  refine cond_go ?_ ?_
  refine cond_go ?_ ?_
  intro h; cases h; rfl
  exact ih _ _ _ _ _ _ _ _ _ _ _ r
  intro h; cases h
  intro h; cases h
  intro h; cases h; rfl
noncomputable def sL23_0_0 : TellS := fun S => dCS 0 S fun y1 y2 y3 => dSt 3 y1 fun y5 l4 => dL 3 0 y5 <| dSs 7 l4 fun y7 l6 => dD 55 QDy y7 fun x0 => dSI 8 .i64 l6 fun x1 l8 => dSI 9 .i64 l8 fun x2 l9 => dE l9 <| dLo 3 y2 fun y10 l11 => dCI .i64 y10 fun x3 l12 => dCI .i64 l12 fun x4 l13 => dCI .i64 l13 fun x5 l14 => dCI .i64 l14 fun x6 l15 => dCI .i64 l15 fun x7 l16 => dCI .i64 l16 fun x8 l17 => dC l17 fun y18 l19 => dBool y18 fun x9 => dC l19 fun y20 l21 => dBool y20 fun A => dE l21 <| dE l11 <| dE y3 <|  some [(isL (L23_0_0 FU x0 x1 x2 x3 x4 x5 x6 x7 x8 x9 A), .ret, { sl := [(4, .v (.sc (.bool ((getL (L23_0_0 FU x0 x1 x2 x3 x4 x5 x6 x7 x8 x9 A))))))], lo := [], h := [], n0 := 0, w := true }), (ok (getR (L23_0_0 FU x0 x1 x2 x3 x4 x5 x6 x7 x8 x9 A)), (.exit 0), { sl := [(3, .l 3 0)], lo := [], h := [], n0 := 0, w := false })]
theorem wL23_0_0 : NewTell Try.prog dOk base o40 t40 ((23, 0), sL23_0_0) := by
 refine ⟨.loop (codeAt Try.prog (tn0 23) 23 0), 0, by kernel_rfl, ?_⟩
 intro S alts e S' h10 h2
 have h1 : sL23_0_0 S = some alts := h10
 clear h10
 unfold sL23_0_0 at h1
 replace h1 := dCS_some h1; obtain ⟨_, _, _, rfl, h1⟩ := h1
 replace h1 := dSt_some h1; obtain ⟨_, _, rfl, h1⟩ := h1
 replace h1 := dL_some h1; obtain ⟨rfl, h1⟩ := h1
 replace h1 := dSs_some h1; obtain ⟨_, _, rfl, h1⟩ := h1
 replace h1 := dD_some h1; obtain ⟨_, rfl, h1⟩ := h1
 replace h1 := dSI_some h1; obtain ⟨_, _, rfl, h1⟩ := h1
 replace h1 := dSI_some h1; obtain ⟨_, _, rfl, h1⟩ := h1
 replace h1 := dE_some h1; obtain ⟨rfl, h1⟩ := h1
 replace h1 := dLo_some h1; obtain ⟨_, _, rfl, h1⟩ := h1
 replace h1 := dCI_some h1; obtain ⟨_, _, rfl, h1⟩ := h1
 replace h1 := dCI_some h1; obtain ⟨_, _, rfl, h1⟩ := h1
 replace h1 := dCI_some h1; obtain ⟨_, _, rfl, h1⟩ := h1
 replace h1 := dCI_some h1; obtain ⟨_, _, rfl, h1⟩ := h1
 replace h1 := dCI_some h1; obtain ⟨_, _, rfl, h1⟩ := h1
 replace h1 := dCI_some h1; obtain ⟨_, _, rfl, h1⟩ := h1
 replace h1 := dC_some h1; obtain ⟨_, _, rfl, h1⟩ := h1
 replace h1 := dBool_some h1; obtain ⟨_, rfl, h1⟩ := h1
 replace h1 := dC_some h1; obtain ⟨_, _, rfl, h1⟩ := h1
 replace h1 := dBool_some h1; obtain ⟨_, rfl, h1⟩ := h1
 replace h1 := dE_some h1; obtain ⟨rfl, h1⟩ := h1
 replace h1 := dE_some h1; obtain ⟨rfl, h1⟩ := h1
 replace h1 := dE_some h1; obtain ⟨rfl, h1⟩ := h1
 cases h1
 rcases pick_cons h2 with ⟨hc0, rfl, rfl⟩ | h2
 · exact ⟨FU + 40, (evPiece_loop rfl).trans (lL23_0_0 FU 40 FU _ _ _ _ _ _ _ _ _ _ _ _ (isL_val hc0))⟩
 obtain ⟨hc1, rfl, rfl⟩ := pick_one h2
 exact ⟨FU + 40, (evPiece_loop rfl).trans (lL23_0_0 FU 40 FU _ _ _ _ _ _ _ _ _ _ _ _ (getR_val (ok_val hc1)))⟩
noncomputable def o41 : OrcT := o40
noncomputable def t41 : TellT := ((23, 0), sL23_0_0) :: t40
noncomputable abbrev tn41 : FuncId → TAn := mkTn base o41 t41
theorem ok41 : TnOk Try.prog tn41 (mkA base) dOk := by
 have h0 : TnOk Try.prog (mkTn base o40 t40) (mkA base) dOk := ok40
 have h1 := tn_tell h0 h0 (p := ((23, 0), sL23_0_0)) wL23_0_0
 exact h1
noncomputable def v23 (x0 : (List (PKt × Int))) (x1 x2 x3 x4 x5 x6 : Int) (x7 : Bool) (x8 : Bool) : Option Bool := (cond (isL (L23_0_0 FU x0 (↑(List.length x0) : Int) 0 x1 x2 x3 x4 x5 x6 x7 x8)) (some (getL (L23_0_0 FU x0 (↑(List.length x0) : Int) 0 x1 x2 x3 x4 x5 x6 x7 x8))) (cond (ok (getR (L23_0_0 FU x0 (↑(List.length x0) : Int) 0 x1 x2 x3 x4 x5 x6 x7 x8))) (some (false)) none))
theorem ev23 (x0 : (List (PKt × Int))) (x1 x2 x3 x4 x5 x6 : Int) (x7 : Bool) (x8 : Bool) : fnBody Try.prog (mkTn base o41 t41 23) (TM.evF Try.prog (mkTn base o41 t41) dOk 40) dOk 40 23 [.sc (.d 55 QDy (x0)), .agg [I4 (x1), I4 (x2), I4 (x3), I4 (x4), I4 (x5), I4 (x6), .bool (x7), .bool (x8)]] [] = (v23 x0 x1 x2 x3 x4 x5 x6 x7 x8).bind fun r => some ([.sc (.bool (r))], []) := by
 refine Eq.trans (b := (cond (isL (L23_0_0 FU x0 (↑(List.length x0) : Int) 0 x1 x2 x3 x4 x5 x6 x7 x8)) (some ([.sc (.bool (getL (L23_0_0 FU x0 (↑(List.length x0) : Int) 0 x1 x2 x3 x4 x5 x6 x7 x8)))], [])) (cond (ok (getR (L23_0_0 FU x0 (↑(List.length x0) : Int) 0 x1 x2 x3 x4 x5 x6 x7 x8))) (some ([.sc (.bool (false))], [])) none))) (by kernel_rfl) ?_
 unfold v23
 refine cond_bd ?_ ?_
 rfl
 refine cond_bd ?_ ?_
 rfl
 rfl
noncomputable def sv23 : OrcS := fun al H => dC al fun y1 l2 => dS y1 fun y3 => dD 55 QDy y3 fun x0 => dC l2 fun y4 l5 => dA y4 fun y6 => dCI .i64 y6 fun x1 l7 => dCI .i64 l7 fun x2 l8 => dCI .i64 l8 fun x3 l9 => dCI .i64 l9 fun x4 l10 => dCI .i64 l10 fun x5 l11 => dCI .i64 l11 fun x6 l12 => dC l12 fun y13 l14 => dBool y13 fun x7 => dC l14 fun y15 l16 => dBool y15 fun x8 => dE l16 <| dE l5 <| dE H <|  some [(ok (v23 x0 x1 x2 x3 x4 x5 x6 x7 x8), [.sc (.bool ((val (v23 x0 x1 x2 x3 x4 x5 x6 x7 x8))))], [])]
theorem wv23 : NewOrc Try.prog dOk base o41 t41 (23, sv23) := by
 intro al H q hq0 rs H2 h2
 have hq : sv23 al H = some q := hq0
 clear hq0
 unfold sv23 at hq
 replace hq := dC_some hq; obtain ⟨_, _, rfl, hq⟩ := hq
 replace hq := dS_some hq; obtain ⟨_, rfl, hq⟩ := hq
 replace hq := dD_some hq; obtain ⟨_, rfl, hq⟩ := hq
 replace hq := dC_some hq; obtain ⟨_, _, rfl, hq⟩ := hq
 replace hq := dA_some hq; obtain ⟨_, rfl, hq⟩ := hq
 replace hq := dCI_some hq; obtain ⟨_, _, rfl, hq⟩ := hq
 replace hq := dCI_some hq; obtain ⟨_, _, rfl, hq⟩ := hq
 replace hq := dCI_some hq; obtain ⟨_, _, rfl, hq⟩ := hq
 replace hq := dCI_some hq; obtain ⟨_, _, rfl, hq⟩ := hq
 replace hq := dCI_some hq; obtain ⟨_, _, rfl, hq⟩ := hq
 replace hq := dCI_some hq; obtain ⟨_, _, rfl, hq⟩ := hq
 replace hq := dC_some hq; obtain ⟨_, _, rfl, hq⟩ := hq
 replace hq := dBool_some hq; obtain ⟨_, rfl, hq⟩ := hq
 replace hq := dC_some hq; obtain ⟨_, _, rfl, hq⟩ := hq
 replace hq := dBool_some hq; obtain ⟨_, rfl, hq⟩ := hq
 replace hq := dE_some hq; obtain ⟨rfl, hq⟩ := hq
 replace hq := dE_some hq; obtain ⟨rfl, hq⟩ := hq
 replace hq := dE_some hq; obtain ⟨rfl, hq⟩ := hq
 cases hq
 obtain ⟨hc0, rfl, rfl⟩ := pickR_one h2
 exact ⟨41, (fn_eq (by kernel_rfl)).trans ((ev23 _ _ _ _ _ _ _ _ _).trans (bind_of (ok_val hc0)))⟩
noncomputable def o42 : OrcT := (23, sv23) :: o41
noncomputable def t42 : TellT := t41
noncomputable abbrev tn42 : FuncId → TAn := mkTn base o42 t42
theorem ok42 : TnOk Try.prog tn42 (mkA base) dOk := by
 have h0 : TnOk Try.prog (mkTn base o41 t41) (mkA base) dOk := ok41
 have h1 := tn_orc h0 h0 (p := (23, sv23)) wv23
 exact h1
noncomputable def v29 (x0 x1 x2 : Int) : Option (Int × Int × (List (List (PKt × Int))) × Int × Int × Int × Int × Int × Int × Int × Int × Int) := (some ((3 : Int), 0, [[]], 0, 0, 0, 0, 0, 0, 0, 0, 0))
theorem ev29 (x0 x1 x2 : Int) : fnBody Try.prog (mkTn base o42 t42 29) (TM.evF Try.prog (mkTn base o42 t42) dOk 40) dOk 40 29 [.sc (I4 (x0)), .sc (I4 (x1)), .sc (I4 (x2))] [] = (v29 x0 x1 x2).bind fun r => some ([.agg [I4 (r.1), I4 (x0), I4 (x1), I4 (r.2.1), I4 (x2), .d 51 (.list 55 QDy) (r.2.2.1 : List (List (PKt × Int))), I4 (r.2.2.2.1), I4 (r.2.2.2.2.1), I4 (r.2.2.2.2.2.1), I4 (r.2.2.2.2.2.2.1), I4 (r.2.2.2.2.2.2.2.1), I4 (r.2.2.2.2.2.2.2.2.1), I4 (r.2.2.2.2.2.2.2.2.2.1), I4 (r.2.2.2.2.2.2.2.2.2.2.1), .int .u64 (r.2.2.2.2.2.2.2.2.2.2.2)]], []) := by
 refine Eq.trans (b := (some ([.agg [I4 ((3 : Int)), I4 (x0), I4 (x1), I4 (0), I4 (x2), .d 51 (.list 55 QDy) ([[]] : List (List (PKt × Int))), I4 (0), I4 (0), I4 (0), I4 (0), I4 (0), I4 (0), I4 (0), I4 (0), .int .u64 (0)]], []))) (by kernel_rfl) ?_
 unfold v29
 rfl
noncomputable def sv29 : OrcS := fun al H => dC al fun y1 l2 => dS y1 fun y3 => dInt .i64 y3 fun x0 => dC l2 fun y4 l5 => dS y4 fun y6 => dInt .i64 y6 fun x1 => dC l5 fun y7 l8 => dS y7 fun y9 => dInt .i64 y9 fun x2 => dE l8 <| dE H <|  some [(ok (v29 x0 x1 x2), [.agg [I4 ((val (v29 x0 x1 x2)).1), I4 (x0), I4 (x1), I4 ((val (v29 x0 x1 x2)).2.1), I4 (x2), .d 51 (.list 55 QDy) ((val (v29 x0 x1 x2)).2.2.1 : List (List (PKt × Int))), I4 ((val (v29 x0 x1 x2)).2.2.2.1), I4 ((val (v29 x0 x1 x2)).2.2.2.2.1), I4 ((val (v29 x0 x1 x2)).2.2.2.2.2.1), I4 ((val (v29 x0 x1 x2)).2.2.2.2.2.2.1), I4 ((val (v29 x0 x1 x2)).2.2.2.2.2.2.2.1), I4 ((val (v29 x0 x1 x2)).2.2.2.2.2.2.2.2.1), I4 ((val (v29 x0 x1 x2)).2.2.2.2.2.2.2.2.2.1), I4 ((val (v29 x0 x1 x2)).2.2.2.2.2.2.2.2.2.2.1), .int .u64 ((val (v29 x0 x1 x2)).2.2.2.2.2.2.2.2.2.2.2)]], [])]
theorem wv29 : NewOrc Try.prog dOk base o42 t42 (29, sv29) := by
 intro al H q hq0 rs H2 h2
 have hq : sv29 al H = some q := hq0
 clear hq0
 unfold sv29 at hq
 obtain ⟨_, _, rfl, g1⟩ := dC_some hq
 obtain ⟨_, rfl, g2⟩ := dS_some g1
 obtain ⟨_, rfl, g3⟩ := dInt_some g2
 obtain ⟨_, _, rfl, g4⟩ := dC_some g3
 obtain ⟨_, rfl, g5⟩ := dS_some g4
 obtain ⟨_, rfl, g6⟩ := dInt_some g5
 obtain ⟨_, _, rfl, g7⟩ := dC_some g6
 obtain ⟨_, rfl, g8⟩ := dS_some g7
 obtain ⟨_, rfl, g9⟩ := dInt_some g8
 obtain ⟨rfl, g10⟩ := dE_some g9
 obtain ⟨rfl, g11⟩ := dE_some g10
 cases g11
 obtain ⟨hc0, rfl, rfl⟩ := pickR_one h2
 exact ⟨41, (fn_eq (by kernel_rfl)).trans ((ev29 _ _ _).trans (bind_of (ok_val hc0)))⟩
noncomputable def o43 : OrcT := (29, sv29) :: o42
noncomputable def t43 : TellT := t42
noncomputable abbrev tn43 : FuncId → TAn := mkTn base o43 t43
theorem ok43 : TnOk Try.prog tn43 (mkA base) dOk := by
 have h0 : TnOk Try.prog (mkTn base o42 t42) (mkA base) dOk := ok42
 have h1 := tn_orc h0 h0 (p := (29, sv29)) wv29
 exact h1
noncomputable def v10 : Option Bool := (some (true))
theorem ev10 : fnBody Try.prog (mkTn base o43 t43 10) (TM.evF Try.prog (mkTn base o43 t43) dOk 40) dOk 40 10 [] [] = (v10).bind fun r => some ([.sc (.bool (r))], []) := by
 refine Eq.trans (b := (some ([.sc (.bool (true))], []))) (by kernel_rfl) ?_
 unfold v10
 rfl
noncomputable def sv10 : OrcS := fun al H => dE al <| dE H <|  some [(ok (v10), [.sc (.bool ((val (v10))))], [])]
theorem wv10 : NewOrc Try.prog dOk base o43 t43 (10, sv10) := by
 intro al H q hq0 rs H2 h2
 have hq : sv10 al H = some q := hq0
 clear hq0
 unfold sv10 at hq
 obtain ⟨rfl, g1⟩ := dE_some hq
 obtain ⟨rfl, g2⟩ := dE_some g1
 cases g2
 obtain ⟨hc0, rfl, rfl⟩ := pickR_one h2
 exact ⟨41, (fn_eq (by kernel_rfl)).trans ((ev10 ).trans (bind_of (ok_val hc0)))⟩
noncomputable def o44 : OrcT := (10, sv10) :: o43
noncomputable def t44 : TellT := t43
noncomputable abbrev tn44 : FuncId → TAn := mkTn base o44 t44
theorem ok44 : TnOk Try.prog tn44 (mkA base) dOk := by
 have h0 : TnOk Try.prog (mkTn base o43 t43) (mkA base) dOk := ok43
 have h1 := tn_orc h0 h0 (p := (10, sv10)) wv10
 exact h1
noncomputable def L5_68_0 (x0 : Bool) (x1 : Bool) (x2 : (List PKt)) (x3 x4 x5 x6 x7 x8 : Int) (x9 : Bool) (A : Bool) (B C D E F G : Int) (I : (List (List (PKt × Int)))) (J K L M N O P Q R T U V W X Y : Int) (x33 : Bool) (x34 : Bool) : Option Bool := (cond (x0) (cond (x1) (cond (T == x3 && (U == x4 && (V == x5 && (W == x6 && (X == x7 && (Y == x8 && (x33 == x9 && (x34 == A && true)))))))) (cond ((↑(List.length x2) : Int) == 0) (cond (J == 0) (some (K == 0)) (some (false))) (some (false))) (some (false))) (some (false))) (some (false)))
noncomputable def xL5_68_0 (x0 : Bool) (x1 : Bool) (x2 : (List PKt)) (x3 x4 x5 x6 x7 x8 : Int) (x9 : Bool) (A : Bool) (B C D E F G : Int) (I : (List (List (PKt × Int)))) (J K L M N O P Q R T U V W X Y : Int) (x33 : Bool) (x34 : Bool) : Bool → Ex × CS := fun r => (.ret, { sl := [(4, .v (.sc (.bool (r))))], lo := [], h := [], n0 := 0, w := true })
theorem bL5_68_0 (k : Nat) (cX : Ex → CS → Option (Ex × CS)) (x0 : Bool) (x1 : Bool) (x2 : (List PKt)) (x3 x4 x5 x6 x7 x8 : Int) (x9 : Bool) (A : Bool) (B C D E F G : Int) (I : (List (List (PKt × Int)))) (J K L M N O P Q R T U V W X Y : Int) (x33 : Bool) (x34 : Bool) : pieceBody Try.prog (mkTn base o44 t44 5) (TM.evF Try.prog (mkTn base o44 t44) dOk (k + 40)) dOk (k + 40) (codeAt Try.prog (tn0 5) 5 68) 0 68 { sl := [(2, .l 2 0), (5, .v (.sc (.bool (x0)))), (6, .l 6 0), (7, .l 7 0), (8, .l 8 0), (9, .v (.sc (.bool (x1)))), (10, .v (.sc (.d 30 PKy (x2))))], lo := [(6, [I4 (x3), I4 (x4), I4 (x5), I4 (x6), I4 (x7), I4 (x8), .bool (x9), .bool (A), I4 (B)]), (7, [I4 (C), I4 (D), I4 (E), I4 (F), I4 (G), .d 51 (.list 55 QDy) (I), I4 (J), I4 (K), I4 (L), I4 (M), I4 (N), I4 (O), I4 (P), I4 (Q), .int .u64 (R)]), (8, [I4 (T), I4 (U), I4 (V), I4 (W), I4 (X), I4 (Y), .bool (x33), .bool (x34)])], h := [], n0 := 0, w := false } cX = (cond (x0) (cond (x1) (cond (T == x3 && (U == x4 && (V == x5 && (W == x6 && (X == x7 && (Y == x8 && (x33 == x9 && (x34 == A && true)))))))) (cond ((↑(List.length x2) : Int) == 0) (cond (J == 0) (cX .ret { sl := [(4, .v (.sc (.bool (K == 0))))], lo := [], h := [], n0 := 0, w := true }) (cX .ret { sl := [(4, .v (.sc (.bool (false))))], lo := [], h := [], n0 := 0, w := true })) (cX .ret { sl := [(4, .v (.sc (.bool (false))))], lo := [], h := [], n0 := 0, w := true })) (cX .ret { sl := [(4, .v (.sc (.bool (false))))], lo := [], h := [], n0 := 0, w := true })) (cX .ret { sl := [(4, .v (.sc (.bool (false))))], lo := [], h := [], n0 := 0, w := true })) (cX .ret { sl := [(4, .v (.sc (.bool (false))))], lo := [], h := [], n0 := 0, w := true })) := by kernel_rfl
theorem lL5_68_0 (k : Nat) (x0 : Bool) (x1 : Bool) (x2 : (List PKt)) (x3 x4 x5 x6 x7 x8 : Int) (x9 : Bool) (A : Bool) (B C D E F G : Int) (I : (List (List (PKt × Int)))) (J K L M N O P Q R T U V W X Y : Int) (x33 : Bool) (x34 : Bool) (r : Bool) : L5_68_0 x0 x1 x2 x3 x4 x5 x6 x7 x8 x9 A B C D E F G I J K L M N O P Q R T U V W X Y x33 x34 = some r → pieceBody Try.prog (mkTn base o44 t44 5) (TM.evF Try.prog (mkTn base o44 t44) dOk (k + 40)) dOk (k + 40) (codeAt Try.prog (tn0 5) 5 68) 0 68 { sl := [(2, .l 2 0), (5, .v (.sc (.bool (x0)))), (6, .l 6 0), (7, .l 7 0), (8, .l 8 0), (9, .v (.sc (.bool (x1)))), (10, .v (.sc (.d 30 PKy (x2))))], lo := [(6, [I4 (x3), I4 (x4), I4 (x5), I4 (x6), I4 (x7), I4 (x8), .bool (x9), .bool (A), I4 (B)]), (7, [I4 (C), I4 (D), I4 (E), I4 (F), I4 (G), .d 51 (.list 55 QDy) (I), I4 (J), I4 (K), I4 (L), I4 (M), I4 (N), I4 (O), I4 (P), I4 (Q), .int .u64 (R)]), (8, [I4 (T), I4 (U), I4 (V), I4 (W), I4 (X), I4 (Y), .bool (x33), .bool (x34)])], h := [], n0 := 0, w := false } (fun e s => some (e, s)) = some (xL5_68_0 x0 x1 x2 x3 x4 x5 x6 x7 x8 x9 A B C D E F G I J K L M N O P Q R T U V W X Y x33 x34 r) := by
 rw [bL5_68_0]
 unfold L5_68_0
 refine cond_go ?_ ?_
 refine cond_go ?_ ?_
 refine cond_go ?_ ?_
 refine cond_go ?_ ?_
 refine cond_go ?_ ?_
 intro h; cases h; rfl
 intro h; cases h; rfl
 intro h; cases h; rfl
 intro h; cases h; rfl
 intro h; cases h; rfl
 intro h; cases h; rfl
noncomputable def sL5_68_0 : TellS := fun S => dCS 0 S fun y1 y2 y3 => dSt 2 y1 fun y5 l4 => dL 2 0 y5 <| dSs 5 l4 fun y7 l6 => dBool y7 fun x0 => dSt 6 l6 fun y9 l8 => dL 6 0 y9 <| dSt 7 l8 fun y11 l10 => dL 7 0 y11 <| dSt 8 l10 fun y13 l12 => dL 8 0 y13 <| dSs 9 l12 fun y15 l14 => dBool y15 fun x1 => dSs 10 l14 fun y17 l16 => dD 30 PKy y17 fun x2 => dE l16 <| dLo 6 y2 fun y18 l19 => dCI .i64 y18 fun x3 l20 => dCI .i64 l20 fun x4 l21 => dCI .i64 l21 fun x5 l22 => dCI .i64 l22 fun x6 l23 => dCI .i64 l23 fun x7 l24 => dCI .i64 l24 fun x8 l25 => dC l25 fun y26 l27 => dBool y26 fun x9 => dC l27 fun y28 l29 => dBool y28 fun A => dCI .i64 l29 fun B l30 => dE l30 <| dLo 7 l19 fun y31 l32 => dCI .i64 y31 fun C l33 => dCI .i64 l33 fun D l34 => dCI .i64 l34 fun E l35 => dCI .i64 l35 fun F l36 => dCI .i64 l36 fun G l37 => dC l37 fun y38 l39 => dD 51 (.list 55 QDy) y38 fun I => dCI .i64 l39 fun J l40 => dCI .i64 l40 fun K l41 => dCI .i64 l41 fun L l42 => dCI .i64 l42 fun M l43 => dCI .i64 l43 fun N l44 => dCI .i64 l44 fun O l45 => dCI .i64 l45 fun P l46 => dCI .i64 l46 fun Q l47 => dCI .u64 l47 fun R l48 => dE l48 <| dLo 8 l32 fun y49 l50 => dCI .i64 y49 fun T l51 => dCI .i64 l51 fun U l52 => dCI .i64 l52 fun V l53 => dCI .i64 l53 fun W l54 => dCI .i64 l54 fun X l55 => dCI .i64 l55 fun Y l56 => dC l56 fun y57 l58 => dBool y57 fun x33 => dC l58 fun y59 l60 => dBool y59 fun x34 => dE l60 <| dE l50 <| dE y3 <|  some [(ok (L5_68_0 x0 x1 x2 x3 x4 x5 x6 x7 x8 x9 A B C D E F G I J K L M N O P Q R T U V W X Y x33 x34), .ret, { sl := [(4, .v (.sc (.bool ((val (L5_68_0 x0 x1 x2 x3 x4 x5 x6 x7 x8 x9 A B C D E F G I J K L M N O P Q R T U V W X Y x33 x34))))))], lo := [], h := [], n0 := 0, w := true })]
theorem wL5_68_0 : NewTell Try.prog dOk base o44 t44 ((5, 68), sL5_68_0) := by
 refine ⟨(codeAt Try.prog (tn0 5) 5 68), 0, by kernel_rfl, ?_⟩
 intro S alts e S' h10 h2
 have h1 : sL5_68_0 S = some alts := h10
 clear h10
 unfold sL5_68_0 at h1
 replace h1 := dCS_some h1; obtain ⟨_, _, _, rfl, h1⟩ := h1
 replace h1 := dSt_some h1; obtain ⟨_, _, rfl, h1⟩ := h1
 replace h1 := dL_some h1; obtain ⟨rfl, h1⟩ := h1
 replace h1 := dSs_some h1; obtain ⟨_, _, rfl, h1⟩ := h1
 replace h1 := dBool_some h1; obtain ⟨_, rfl, h1⟩ := h1
 replace h1 := dSt_some h1; obtain ⟨_, _, rfl, h1⟩ := h1
 replace h1 := dL_some h1; obtain ⟨rfl, h1⟩ := h1
 replace h1 := dSt_some h1; obtain ⟨_, _, rfl, h1⟩ := h1
 replace h1 := dL_some h1; obtain ⟨rfl, h1⟩ := h1
 replace h1 := dSt_some h1; obtain ⟨_, _, rfl, h1⟩ := h1
 replace h1 := dL_some h1; obtain ⟨rfl, h1⟩ := h1
 replace h1 := dSs_some h1; obtain ⟨_, _, rfl, h1⟩ := h1
 replace h1 := dBool_some h1; obtain ⟨_, rfl, h1⟩ := h1
 replace h1 := dSs_some h1; obtain ⟨_, _, rfl, h1⟩ := h1
 replace h1 := dD_some h1; obtain ⟨_, rfl, h1⟩ := h1
 replace h1 := dE_some h1; obtain ⟨rfl, h1⟩ := h1
 replace h1 := dLo_some h1; obtain ⟨_, _, rfl, h1⟩ := h1
 replace h1 := dCI_some h1; obtain ⟨_, _, rfl, h1⟩ := h1
 replace h1 := dCI_some h1; obtain ⟨_, _, rfl, h1⟩ := h1
 replace h1 := dCI_some h1; obtain ⟨_, _, rfl, h1⟩ := h1
 replace h1 := dCI_some h1; obtain ⟨_, _, rfl, h1⟩ := h1
 replace h1 := dCI_some h1; obtain ⟨_, _, rfl, h1⟩ := h1
 replace h1 := dCI_some h1; obtain ⟨_, _, rfl, h1⟩ := h1
 replace h1 := dC_some h1; obtain ⟨_, _, rfl, h1⟩ := h1
 replace h1 := dBool_some h1; obtain ⟨_, rfl, h1⟩ := h1
 replace h1 := dC_some h1; obtain ⟨_, _, rfl, h1⟩ := h1
 replace h1 := dBool_some h1; obtain ⟨_, rfl, h1⟩ := h1
 replace h1 := dCI_some h1; obtain ⟨_, _, rfl, h1⟩ := h1
 replace h1 := dE_some h1; obtain ⟨rfl, h1⟩ := h1
 replace h1 := dLo_some h1; obtain ⟨_, _, rfl, h1⟩ := h1
 replace h1 := dCI_some h1; obtain ⟨_, _, rfl, h1⟩ := h1
 replace h1 := dCI_some h1; obtain ⟨_, _, rfl, h1⟩ := h1
 replace h1 := dCI_some h1; obtain ⟨_, _, rfl, h1⟩ := h1
 replace h1 := dCI_some h1; obtain ⟨_, _, rfl, h1⟩ := h1
 replace h1 := dCI_some h1; obtain ⟨_, _, rfl, h1⟩ := h1
 replace h1 := dC_some h1; obtain ⟨_, _, rfl, h1⟩ := h1
 replace h1 := dD_some h1; obtain ⟨_, rfl, h1⟩ := h1
 replace h1 := dCI_some h1; obtain ⟨_, _, rfl, h1⟩ := h1
 replace h1 := dCI_some h1; obtain ⟨_, _, rfl, h1⟩ := h1
 replace h1 := dCI_some h1; obtain ⟨_, _, rfl, h1⟩ := h1
 replace h1 := dCI_some h1; obtain ⟨_, _, rfl, h1⟩ := h1
 replace h1 := dCI_some h1; obtain ⟨_, _, rfl, h1⟩ := h1
 replace h1 := dCI_some h1; obtain ⟨_, _, rfl, h1⟩ := h1
 replace h1 := dCI_some h1; obtain ⟨_, _, rfl, h1⟩ := h1
 replace h1 := dCI_some h1; obtain ⟨_, _, rfl, h1⟩ := h1
 replace h1 := dCI_some h1; obtain ⟨_, _, rfl, h1⟩ := h1
 replace h1 := dE_some h1; obtain ⟨rfl, h1⟩ := h1
 replace h1 := dLo_some h1; obtain ⟨_, _, rfl, h1⟩ := h1
 replace h1 := dCI_some h1; obtain ⟨_, _, rfl, h1⟩ := h1
 replace h1 := dCI_some h1; obtain ⟨_, _, rfl, h1⟩ := h1
 replace h1 := dCI_some h1; obtain ⟨_, _, rfl, h1⟩ := h1
 replace h1 := dCI_some h1; obtain ⟨_, _, rfl, h1⟩ := h1
 replace h1 := dCI_some h1; obtain ⟨_, _, rfl, h1⟩ := h1
 replace h1 := dCI_some h1; obtain ⟨_, _, rfl, h1⟩ := h1
 replace h1 := dC_some h1; obtain ⟨_, _, rfl, h1⟩ := h1
 replace h1 := dBool_some h1; obtain ⟨_, rfl, h1⟩ := h1
 replace h1 := dC_some h1; obtain ⟨_, _, rfl, h1⟩ := h1
 replace h1 := dBool_some h1; obtain ⟨_, rfl, h1⟩ := h1
 replace h1 := dE_some h1; obtain ⟨rfl, h1⟩ := h1
 replace h1 := dE_some h1; obtain ⟨rfl, h1⟩ := h1
 replace h1 := dE_some h1; obtain ⟨rfl, h1⟩ := h1
 cases h1
 obtain ⟨hc0, rfl, rfl⟩ := pick_one h2
 exact ⟨0 + 40, (evPiece_code rfl).trans (lL5_68_0 0 _ _ _ _ _ _ _ _ _ _ _ _ _ _ _ _ _ _ _ _ _ _ _ _ _ _ _ _ _ _ _ _ _ _ _ _ (ok_val hc0))⟩
noncomputable def o45 : OrcT := o44
noncomputable def t45 : TellT := ((5, 68), sL5_68_0) :: t44
noncomputable abbrev tn45 : FuncId → TAn := mkTn base o45 t45
theorem ok45 : TnOk Try.prog tn45 (mkA base) dOk := by
 have h0 : TnOk Try.prog (mkTn base o44 t44) (mkA base) dOk := ok44
 have h1 := tn_tell h0 h0 (p := ((5, 68), sL5_68_0)) wL5_68_0
 exact h1
noncomputable def L5_44_0 (x0 : Int) (x1 : Bool) (x2 x3 x4 x5 x6 : Int) (x7 : (List (List (PKt × Int)))) (x8 x9 A B C D E F G I J K L M N : Int) (O : Bool) (P : Bool) (Q : Int) : Option Bool := (cond (ok (v14 x2 x3 x4 x5 x6 x7 x8 x9 A B C D E F G x0)) (cond (Prod.snd (Prod.snd (Prod.snd (Prod.snd (Prod.snd (Prod.snd (Prod.snd (Prod.snd (Prod.snd (Prod.snd (Prod.snd (Prod.snd (Prod.snd (Prod.snd (Prod.snd (Prod.snd (Prod.snd (Prod.snd (Prod.snd (Prod.snd (Prod.snd (Prod.snd (Prod.snd (Prod.snd (Prod.snd (val (v14 x2 x3 x4 x5 x6 x7 x8 x9 A B C D E F G x0)))))))))))))))))))))))))) != 0) (cond (x1) (cond (!Prod.fst (Prod.snd (Prod.snd (Prod.snd (Prod.snd (Prod.snd (Prod.snd (Prod.snd (Prod.snd (Prod.snd (Prod.snd (Prod.snd (Prod.snd (Prod.snd (Prod.snd (Prod.snd (Prod.snd (Prod.snd (Prod.snd (Prod.snd (Prod.snd (Prod.snd (Prod.snd (Prod.snd (val (v14 x2 x3 x4 x5 x6 x7 x8 x9 A B C D E F G x0)))))))))))))))))))))))))) (some (true)) (cond (!Prod.fst (Prod.snd (Prod.snd (Prod.snd (Prod.snd (Prod.snd (Prod.snd (Prod.snd (Prod.snd (Prod.snd (Prod.snd (Prod.snd (Prod.snd (Prod.snd (Prod.snd (Prod.snd (Prod.snd (Prod.snd (Prod.snd (Prod.snd (Prod.snd (Prod.snd (Prod.snd (val (v14 x2 x3 x4 x5 x6 x7 x8 x9 A B C D E F G x0))))))))))))))))))))))))) (some (true)) (cond (Prod.fst (Prod.snd (Prod.snd (Prod.snd (Prod.snd (Prod.snd (Prod.snd (Prod.snd (Prod.snd (Prod.snd (Prod.snd (Prod.snd (Prod.snd (Prod.snd (Prod.snd (Prod.snd (Prod.snd (Prod.snd (Prod.snd (Prod.snd (Prod.snd (Prod.snd (val (v14 x2 x3 x4 x5 x6 x7 x8 x9 A B C D E F G x0)))))))))))))))))))))))) (some (true)) (cond (Prod.snd (Prod.snd (Prod.snd (Prod.snd (Prod.snd (Prod.snd (Prod.snd (Prod.snd (Prod.snd (Prod.snd (Prod.snd (Prod.snd (Prod.snd (Prod.snd (Prod.snd (Prod.snd (Prod.snd (Prod.snd (Prod.snd (Prod.snd (Prod.snd (Prod.snd (Prod.snd (Prod.snd (Prod.snd (val (v14 x2 x3 x4 x5 x6 x7 x8 x9 A B C D E F G x0)))))))))))))))))))))))))) == 0) (cond (decide (0 < (↑(List.length x7) : Int))) (cond (ok (v23 (List.getD x7 (Int.toNat 0) []) (Prod.fst (Prod.snd (Prod.snd (Prod.snd (Prod.snd (Prod.snd (Prod.snd (Prod.snd (Prod.snd (Prod.snd (Prod.snd (Prod.snd (Prod.snd (Prod.snd (Prod.snd (Prod.snd (val (v14 x2 x3 x4 x5 x6 x7 x8 x9 A B C D E F G x0)))))))))))))))))) (Prod.fst (Prod.snd (Prod.snd (Prod.snd (Prod.snd (Prod.snd (Prod.snd (Prod.snd (Prod.snd (Prod.snd (Prod.snd (Prod.snd (Prod.snd (Prod.snd (Prod.snd (Prod.snd (Prod.snd (val (v14 x2 x3 x4 x5 x6 x7 x8 x9 A B C D E F G x0))))))))))))))))))) (Prod.fst (Prod.snd (Prod.snd (Prod.snd (Prod.snd (Prod.snd (Prod.snd (Prod.snd (Prod.snd (Prod.snd (Prod.snd (Prod.snd (Prod.snd (Prod.snd (Prod.snd (Prod.snd (Prod.snd (Prod.snd (val (v14 x2 x3 x4 x5 x6 x7 x8 x9 A B C D E F G x0)))))))))))))))))))) (Prod.fst (Prod.snd (Prod.snd (Prod.snd (Prod.snd (Prod.snd (Prod.snd (Prod.snd (Prod.snd (Prod.snd (Prod.snd (Prod.snd (Prod.snd (Prod.snd (Prod.snd (Prod.snd (Prod.snd (Prod.snd (Prod.snd (val (v14 x2 x3 x4 x5 x6 x7 x8 x9 A B C D E F G x0))))))))))))))))))))) (Prod.fst (Prod.snd (Prod.snd (Prod.snd (Prod.snd (Prod.snd (Prod.snd (Prod.snd (Prod.snd (Prod.snd (Prod.snd (Prod.snd (Prod.snd (Prod.snd (Prod.snd (Prod.snd (Prod.snd (Prod.snd (Prod.snd (Prod.snd (val (v14 x2 x3 x4 x5 x6 x7 x8 x9 A B C D E F G x0)))))))))))))))))))))) (Prod.fst (Prod.snd (Prod.snd (Prod.snd (Prod.snd (Prod.snd (Prod.snd (Prod.snd (Prod.snd (Prod.snd (Prod.snd (Prod.snd (Prod.snd (Prod.snd (Prod.snd (Prod.snd (Prod.snd (Prod.snd (Prod.snd (Prod.snd (Prod.snd (val (v14 x2 x3 x4 x5 x6 x7 x8 x9 A B C D E F G x0))))))))))))))))))))))) (Prod.fst (Prod.snd (Prod.snd (Prod.snd (Prod.snd (Prod.snd (Prod.snd (Prod.snd (Prod.snd (Prod.snd (Prod.snd (Prod.snd (Prod.snd (Prod.snd (Prod.snd (Prod.snd (Prod.snd (Prod.snd (Prod.snd (Prod.snd (Prod.snd (Prod.snd (val (v14 x2 x3 x4 x5 x6 x7 x8 x9 A B C D E F G x0)))))))))))))))))))))))) (Prod.fst (Prod.snd (Prod.snd (Prod.snd (Prod.snd (Prod.snd (Prod.snd (Prod.snd (Prod.snd (Prod.snd (Prod.snd (Prod.snd (Prod.snd (Prod.snd (Prod.snd (Prod.snd (Prod.snd (Prod.snd (Prod.snd (Prod.snd (Prod.snd (Prod.snd (Prod.snd (val (v14 x2 x3 x4 x5 x6 x7 x8 x9 A B C D E F G x0))))))))))))))))))))))))))) (some (val (v23 (List.getD x7 (Int.toNat 0) []) (Prod.fst (Prod.snd (Prod.snd (Prod.snd (Prod.snd (Prod.snd (Prod.snd (Prod.snd (Prod.snd (Prod.snd (Prod.snd (Prod.snd (Prod.snd (Prod.snd (Prod.snd (Prod.snd (val (v14 x2 x3 x4 x5 x6 x7 x8 x9 A B C D E F G x0)))))))))))))))))) (Prod.fst (Prod.snd (Prod.snd (Prod.snd (Prod.snd (Prod.snd (Prod.snd (Prod.snd (Prod.snd (Prod.snd (Prod.snd (Prod.snd (Prod.snd (Prod.snd (Prod.snd (Prod.snd (Prod.snd (val (v14 x2 x3 x4 x5 x6 x7 x8 x9 A B C D E F G x0))))))))))))))))))) (Prod.fst (Prod.snd (Prod.snd (Prod.snd (Prod.snd (Prod.snd (Prod.snd (Prod.snd (Prod.snd (Prod.snd (Prod.snd (Prod.snd (Prod.snd (Prod.snd (Prod.snd (Prod.snd (Prod.snd (Prod.snd (val (v14 x2 x3 x4 x5 x6 x7 x8 x9 A B C D E F G x0)))))))))))))))))))) (Prod.fst (Prod.snd (Prod.snd (Prod.snd (Prod.snd (Prod.snd (Prod.snd (Prod.snd (Prod.snd (Prod.snd (Prod.snd (Prod.snd (Prod.snd (Prod.snd (Prod.snd (Prod.snd (Prod.snd (Prod.snd (Prod.snd (val (v14 x2 x3 x4 x5 x6 x7 x8 x9 A B C D E F G x0))))))))))))))))))))) (Prod.fst (Prod.snd (Prod.snd (Prod.snd (Prod.snd (Prod.snd (Prod.snd (Prod.snd (Prod.snd (Prod.snd (Prod.snd (Prod.snd (Prod.snd (Prod.snd (Prod.snd (Prod.snd (Prod.snd (Prod.snd (Prod.snd (Prod.snd (val (v14 x2 x3 x4 x5 x6 x7 x8 x9 A B C D E F G x0)))))))))))))))))))))) (Prod.fst (Prod.snd (Prod.snd (Prod.snd (Prod.snd (Prod.snd (Prod.snd (Prod.snd (Prod.snd (Prod.snd (Prod.snd (Prod.snd (Prod.snd (Prod.snd (Prod.snd (Prod.snd (Prod.snd (Prod.snd (Prod.snd (Prod.snd (Prod.snd (val (v14 x2 x3 x4 x5 x6 x7 x8 x9 A B C D E F G x0))))))))))))))))))))))) (Prod.fst (Prod.snd (Prod.snd (Prod.snd (Prod.snd (Prod.snd (Prod.snd (Prod.snd (Prod.snd (Prod.snd (Prod.snd (Prod.snd (Prod.snd (Prod.snd (Prod.snd (Prod.snd (Prod.snd (Prod.snd (Prod.snd (Prod.snd (Prod.snd (Prod.snd (val (v14 x2 x3 x4 x5 x6 x7 x8 x9 A B C D E F G x0)))))))))))))))))))))))) (Prod.fst (Prod.snd (Prod.snd (Prod.snd (Prod.snd (Prod.snd (Prod.snd (Prod.snd (Prod.snd (Prod.snd (Prod.snd (Prod.snd (Prod.snd (Prod.snd (Prod.snd (Prod.snd (Prod.snd (Prod.snd (Prod.snd (Prod.snd (Prod.snd (Prod.snd (Prod.snd (val (v14 x2 x3 x4 x5 x6 x7 x8 x9 A B C D E F G x0)))))))))))))))))))))))))))) none) none) (some (false)))))) (some (false))) (cond (decide (IntKind.wrap IntKind.i64 (x0 - Q) ≥ x3)) (cond (x1) (cond (!Prod.fst (Prod.snd (Prod.snd (Prod.snd (Prod.snd (Prod.snd (Prod.snd (Prod.snd (Prod.snd (Prod.snd (Prod.snd (Prod.snd (Prod.snd (Prod.snd (Prod.snd (Prod.snd (Prod.snd (Prod.snd (Prod.snd (Prod.snd (Prod.snd (Prod.snd (Prod.snd (Prod.snd (val (v14 x2 x3 x4 x5 x6 x7 x8 x9 A B C D E F G x0)))))))))))))))))))))))))) (some (true)) (cond (!Prod.fst (Prod.snd (Prod.snd (Prod.snd (Prod.snd (Prod.snd (Prod.snd (Prod.snd (Prod.snd (Prod.snd (Prod.snd (Prod.snd (Prod.snd (Prod.snd (Prod.snd (Prod.snd (Prod.snd (Prod.snd (Prod.snd (Prod.snd (Prod.snd (Prod.snd (Prod.snd (val (v14 x2 x3 x4 x5 x6 x7 x8 x9 A B C D E F G x0))))))))))))))))))))))))) (some (true)) (cond (Prod.fst (Prod.snd (Prod.snd (Prod.snd (Prod.snd (Prod.snd (Prod.snd (Prod.snd (Prod.snd (Prod.snd (Prod.snd (Prod.snd (Prod.snd (Prod.snd (Prod.snd (Prod.snd (Prod.snd (Prod.snd (Prod.snd (Prod.snd (Prod.snd (Prod.snd (val (v14 x2 x3 x4 x5 x6 x7 x8 x9 A B C D E F G x0)))))))))))))))))))))))) (some (true)) (cond (Prod.snd (Prod.snd (Prod.snd (Prod.snd (Prod.snd (Prod.snd (Prod.snd (Prod.snd (Prod.snd (Prod.snd (Prod.snd (Prod.snd (Prod.snd (Prod.snd (Prod.snd (Prod.snd (Prod.snd (Prod.snd (Prod.snd (Prod.snd (Prod.snd (Prod.snd (Prod.snd (Prod.snd (Prod.snd (val (v14 x2 x3 x4 x5 x6 x7 x8 x9 A B C D E F G x0)))))))))))))))))))))))))) == 0) (cond (decide (0 < (↑(List.length x7) : Int))) (cond (ok (v23 (List.getD x7 (Int.toNat 0) []) (Prod.fst (Prod.snd (Prod.snd (Prod.snd (Prod.snd (Prod.snd (Prod.snd (Prod.snd (Prod.snd (Prod.snd (Prod.snd (Prod.snd (Prod.snd (Prod.snd (Prod.snd (Prod.snd (val (v14 x2 x3 x4 x5 x6 x7 x8 x9 A B C D E F G x0)))))))))))))))))) (Prod.fst (Prod.snd (Prod.snd (Prod.snd (Prod.snd (Prod.snd (Prod.snd (Prod.snd (Prod.snd (Prod.snd (Prod.snd (Prod.snd (Prod.snd (Prod.snd (Prod.snd (Prod.snd (Prod.snd (val (v14 x2 x3 x4 x5 x6 x7 x8 x9 A B C D E F G x0))))))))))))))))))) (Prod.fst (Prod.snd (Prod.snd (Prod.snd (Prod.snd (Prod.snd (Prod.snd (Prod.snd (Prod.snd (Prod.snd (Prod.snd (Prod.snd (Prod.snd (Prod.snd (Prod.snd (Prod.snd (Prod.snd (Prod.snd (val (v14 x2 x3 x4 x5 x6 x7 x8 x9 A B C D E F G x0)))))))))))))))))))) (Prod.fst (Prod.snd (Prod.snd (Prod.snd (Prod.snd (Prod.snd (Prod.snd (Prod.snd (Prod.snd (Prod.snd (Prod.snd (Prod.snd (Prod.snd (Prod.snd (Prod.snd (Prod.snd (Prod.snd (Prod.snd (Prod.snd (val (v14 x2 x3 x4 x5 x6 x7 x8 x9 A B C D E F G x0))))))))))))))))))))) (Prod.fst (Prod.snd (Prod.snd (Prod.snd (Prod.snd (Prod.snd (Prod.snd (Prod.snd (Prod.snd (Prod.snd (Prod.snd (Prod.snd (Prod.snd (Prod.snd (Prod.snd (Prod.snd (Prod.snd (Prod.snd (Prod.snd (Prod.snd (val (v14 x2 x3 x4 x5 x6 x7 x8 x9 A B C D E F G x0)))))))))))))))))))))) (Prod.fst (Prod.snd (Prod.snd (Prod.snd (Prod.snd (Prod.snd (Prod.snd (Prod.snd (Prod.snd (Prod.snd (Prod.snd (Prod.snd (Prod.snd (Prod.snd (Prod.snd (Prod.snd (Prod.snd (Prod.snd (Prod.snd (Prod.snd (Prod.snd (val (v14 x2 x3 x4 x5 x6 x7 x8 x9 A B C D E F G x0))))))))))))))))))))))) (Prod.fst (Prod.snd (Prod.snd (Prod.snd (Prod.snd (Prod.snd (Prod.snd (Prod.snd (Prod.snd (Prod.snd (Prod.snd (Prod.snd (Prod.snd (Prod.snd (Prod.snd (Prod.snd (Prod.snd (Prod.snd (Prod.snd (Prod.snd (Prod.snd (Prod.snd (val (v14 x2 x3 x4 x5 x6 x7 x8 x9 A B C D E F G x0)))))))))))))))))))))))) (Prod.fst (Prod.snd (Prod.snd (Prod.snd (Prod.snd (Prod.snd (Prod.snd (Prod.snd (Prod.snd (Prod.snd (Prod.snd (Prod.snd (Prod.snd (Prod.snd (Prod.snd (Prod.snd (Prod.snd (Prod.snd (Prod.snd (Prod.snd (Prod.snd (Prod.snd (Prod.snd (val (v14 x2 x3 x4 x5 x6 x7 x8 x9 A B C D E F G x0))))))))))))))))))))))))))) (some (val (v23 (List.getD x7 (Int.toNat 0) []) (Prod.fst (Prod.snd (Prod.snd (Prod.snd (Prod.snd (Prod.snd (Prod.snd (Prod.snd (Prod.snd (Prod.snd (Prod.snd (Prod.snd (Prod.snd (Prod.snd (Prod.snd (Prod.snd (val (v14 x2 x3 x4 x5 x6 x7 x8 x9 A B C D E F G x0)))))))))))))))))) (Prod.fst (Prod.snd (Prod.snd (Prod.snd (Prod.snd (Prod.snd (Prod.snd (Prod.snd (Prod.snd (Prod.snd (Prod.snd (Prod.snd (Prod.snd (Prod.snd (Prod.snd (Prod.snd (Prod.snd (val (v14 x2 x3 x4 x5 x6 x7 x8 x9 A B C D E F G x0))))))))))))))))))) (Prod.fst (Prod.snd (Prod.snd (Prod.snd (Prod.snd (Prod.snd (Prod.snd (Prod.snd (Prod.snd (Prod.snd (Prod.snd (Prod.snd (Prod.snd (Prod.snd (Prod.snd (Prod.snd (Prod.snd (Prod.snd (val (v14 x2 x3 x4 x5 x6 x7 x8 x9 A B C D E F G x0)))))))))))))))))))) (Prod.fst (Prod.snd (Prod.snd (Prod.snd (Prod.snd (Prod.snd (Prod.snd (Prod.snd (Prod.snd (Prod.snd (Prod.snd (Prod.snd (Prod.snd (Prod.snd (Prod.snd (Prod.snd (Prod.snd (Prod.snd (Prod.snd (val (v14 x2 x3 x4 x5 x6 x7 x8 x9 A B C D E F G x0))))))))))))))))))))) (Prod.fst (Prod.snd (Prod.snd (Prod.snd (Prod.snd (Prod.snd (Prod.snd (Prod.snd (Prod.snd (Prod.snd (Prod.snd (Prod.snd (Prod.snd (Prod.snd (Prod.snd (Prod.snd (Prod.snd (Prod.snd (Prod.snd (Prod.snd (val (v14 x2 x3 x4 x5 x6 x7 x8 x9 A B C D E F G x0)))))))))))))))))))))) (Prod.fst (Prod.snd (Prod.snd (Prod.snd (Prod.snd (Prod.snd (Prod.snd (Prod.snd (Prod.snd (Prod.snd (Prod.snd (Prod.snd (Prod.snd (Prod.snd (Prod.snd (Prod.snd (Prod.snd (Prod.snd (Prod.snd (Prod.snd (Prod.snd (val (v14 x2 x3 x4 x5 x6 x7 x8 x9 A B C D E F G x0))))))))))))))))))))))) (Prod.fst (Prod.snd (Prod.snd (Prod.snd (Prod.snd (Prod.snd (Prod.snd (Prod.snd (Prod.snd (Prod.snd (Prod.snd (Prod.snd (Prod.snd (Prod.snd (Prod.snd (Prod.snd (Prod.snd (Prod.snd (Prod.snd (Prod.snd (Prod.snd (Prod.snd (val (v14 x2 x3 x4 x5 x6 x7 x8 x9 A B C D E F G x0)))))))))))))))))))))))) (Prod.fst (Prod.snd (Prod.snd (Prod.snd (Prod.snd (Prod.snd (Prod.snd (Prod.snd (Prod.snd (Prod.snd (Prod.snd (Prod.snd (Prod.snd (Prod.snd (Prod.snd (Prod.snd (Prod.snd (Prod.snd (Prod.snd (Prod.snd (Prod.snd (Prod.snd (Prod.snd (val (v14 x2 x3 x4 x5 x6 x7 x8 x9 A B C D E F G x0)))))))))))))))))))))))))))) none) none) (some (false)))))) (some (false))) (cond (ok (L5_68_0 x1 (Prod.fst (Prod.snd (Prod.snd (Prod.snd (Prod.snd (Prod.snd (Prod.snd (Prod.snd (Prod.snd (Prod.snd (Prod.snd (Prod.snd (Prod.snd (Prod.snd (Prod.snd (Prod.snd (Prod.snd (Prod.snd (Prod.snd (Prod.snd (Prod.snd (Prod.snd (Prod.snd (Prod.snd (val (v14 x2 x3 x4 x5 x6 x7 x8 x9 A B C D E F G x0)))))))))))))))))))))))))) (Prod.fst (Prod.snd (Prod.snd (Prod.snd (Prod.snd (Prod.snd (Prod.snd (Prod.snd (Prod.snd (Prod.snd (Prod.snd (Prod.snd (Prod.snd (Prod.snd (Prod.snd (Prod.snd (Prod.snd (Prod.snd (Prod.snd (Prod.snd (Prod.snd (Prod.snd (Prod.snd (Prod.snd (Prod.snd (val (v14 x2 x3 x4 x5 x6 x7 x8 x9 A B C D E F G x0))))))))))))))))))))))))))) I J K L M N O P Q (Prod.fst (val (v14 x2 x3 x4 x5 x6 x7 x8 x9 A B C D E F G x0))) (Prod.fst (Prod.snd (val (v14 x2 x3 x4 x5 x6 x7 x8 x9 A B C D E F G x0)))) (Prod.fst (Prod.snd (Prod.snd (val (v14 x2 x3 x4 x5 x6 x7 x8 x9 A B C D E F G x0))))) (Prod.fst (Prod.snd (Prod.snd (Prod.snd (val (v14 x2 x3 x4 x5 x6 x7 x8 x9 A B C D E F G x0)))))) (Prod.fst (Prod.snd (Prod.snd (Prod.snd (Prod.snd (val (v14 x2 x3 x4 x5 x6 x7 x8 x9 A B C D E F G x0))))))) (Prod.fst (Prod.snd (Prod.snd (Prod.snd (Prod.snd (Prod.snd (val (v14 x2 x3 x4 x5 x6 x7 x8 x9 A B C D E F G x0)))))))) (Prod.fst (Prod.snd (Prod.snd (Prod.snd (Prod.snd (Prod.snd (Prod.snd (val (v14 x2 x3 x4 x5 x6 x7 x8 x9 A B C D E F G x0))))))))) (Prod.fst (Prod.snd (Prod.snd (Prod.snd (Prod.snd (Prod.snd (Prod.snd (Prod.snd (val (v14 x2 x3 x4 x5 x6 x7 x8 x9 A B C D E F G x0)))))))))) (Prod.fst (Prod.snd (Prod.snd (Prod.snd (Prod.snd (Prod.snd (Prod.snd (Prod.snd (Prod.snd (val (v14 x2 x3 x4 x5 x6 x7 x8 x9 A B C D E F G x0))))))))))) (Prod.fst (Prod.snd (Prod.snd (Prod.snd (Prod.snd (Prod.snd (Prod.snd (Prod.snd (Prod.snd (Prod.snd (val (v14 x2 x3 x4 x5 x6 x7 x8 x9 A B C D E F G x0)))))))))))) (Prod.fst (Prod.snd (Prod.snd (Prod.snd (Prod.snd (Prod.snd (Prod.snd (Prod.snd (Prod.snd (Prod.snd (Prod.snd (val (v14 x2 x3 x4 x5 x6 x7 x8 x9 A B C D E F G x0))))))))))))) (Prod.fst (Prod.snd (Prod.snd (Prod.snd (Prod.snd (Prod.snd (Prod.snd (Prod.snd (Prod.snd (Prod.snd (Prod.snd (Prod.snd (val (v14 x2 x3 x4 x5 x6 x7 x8 x9 A B C D E F G x0)))))))))))))) (Prod.fst (Prod.snd (Prod.snd (Prod.snd (Prod.snd (Prod.snd (Prod.snd (Prod.snd (Prod.snd (Prod.snd (Prod.snd (Prod.snd (Prod.snd (val (v14 x2 x3 x4 x5 x6 x7 x8 x9 A B C D E F G x0))))))))))))))) (Prod.fst (Prod.snd (Prod.snd (Prod.snd (Prod.snd (Prod.snd (Prod.snd (Prod.snd (Prod.snd (Prod.snd (Prod.snd (Prod.snd (Prod.snd (Prod.snd (val (v14 x2 x3 x4 x5 x6 x7 x8 x9 A B C D E F G x0)))))))))))))))) (Prod.fst (Prod.snd (Prod.snd (Prod.snd (Prod.snd (Prod.snd (Prod.snd (Prod.snd (Prod.snd (Prod.snd (Prod.snd (Prod.snd (Prod.snd (Prod.snd (Prod.snd (val (v14 x2 x3 x4 x5 x6 x7 x8 x9 A B C D E F G x0))))))))))))))))) (Prod.fst (Prod.snd (Prod.snd (Prod.snd (Prod.snd (Prod.snd (Prod.snd (Prod.snd (Prod.snd (Prod.snd (Prod.snd (Prod.snd (Prod.snd (Prod.snd (Prod.snd (Prod.snd (val (v14 x2 x3 x4 x5 x6 x7 x8 x9 A B C D E F G x0)))))))))))))))))) (Prod.fst (Prod.snd (Prod.snd (Prod.snd (Prod.snd (Prod.snd (Prod.snd (Prod.snd (Prod.snd (Prod.snd (Prod.snd (Prod.snd (Prod.snd (Prod.snd (Prod.snd (Prod.snd (Prod.snd (val (v14 x2 x3 x4 x5 x6 x7 x8 x9 A B C D E F G x0))))))))))))))))))) (Prod.fst (Prod.snd (Prod.snd (Prod.snd (Prod.snd (Prod.snd (Prod.snd (Prod.snd (Prod.snd (Prod.snd (Prod.snd (Prod.snd (Prod.snd (Prod.snd (Prod.snd (Prod.snd (Prod.snd (Prod.snd (val (v14 x2 x3 x4 x5 x6 x7 x8 x9 A B C D E F G x0)))))))))))))))))))) (Prod.fst (Prod.snd (Prod.snd (Prod.snd (Prod.snd (Prod.snd (Prod.snd (Prod.snd (Prod.snd (Prod.snd (Prod.snd (Prod.snd (Prod.snd (Prod.snd (Prod.snd (Prod.snd (Prod.snd (Prod.snd (Prod.snd (val (v14 x2 x3 x4 x5 x6 x7 x8 x9 A B C D E F G x0))))))))))))))))))))) (Prod.fst (Prod.snd (Prod.snd (Prod.snd (Prod.snd (Prod.snd (Prod.snd (Prod.snd (Prod.snd (Prod.snd (Prod.snd (Prod.snd (Prod.snd (Prod.snd (Prod.snd (Prod.snd (Prod.snd (Prod.snd (Prod.snd (Prod.snd (val (v14 x2 x3 x4 x5 x6 x7 x8 x9 A B C D E F G x0)))))))))))))))))))))) (Prod.fst (Prod.snd (Prod.snd (Prod.snd (Prod.snd (Prod.snd (Prod.snd (Prod.snd (Prod.snd (Prod.snd (Prod.snd (Prod.snd (Prod.snd (Prod.snd (Prod.snd (Prod.snd (Prod.snd (Prod.snd (Prod.snd (Prod.snd (Prod.snd (val (v14 x2 x3 x4 x5 x6 x7 x8 x9 A B C D E F G x0))))))))))))))))))))))) (Prod.fst (Prod.snd (Prod.snd (Prod.snd (Prod.snd (Prod.snd (Prod.snd (Prod.snd (Prod.snd (Prod.snd (Prod.snd (Prod.snd (Prod.snd (Prod.snd (Prod.snd (Prod.snd (Prod.snd (Prod.snd (Prod.snd (Prod.snd (Prod.snd (Prod.snd (val (v14 x2 x3 x4 x5 x6 x7 x8 x9 A B C D E F G x0)))))))))))))))))))))))) (Prod.fst (Prod.snd (Prod.snd (Prod.snd (Prod.snd (Prod.snd (Prod.snd (Prod.snd (Prod.snd (Prod.snd (Prod.snd (Prod.snd (Prod.snd (Prod.snd (Prod.snd (Prod.snd (Prod.snd (Prod.snd (Prod.snd (Prod.snd (Prod.snd (Prod.snd (Prod.snd (val (v14 x2 x3 x4 x5 x6 x7 x8 x9 A B C D E F G x0))))))))))))))))))))))))))) (some (val (L5_68_0 x1 (Prod.fst (Prod.snd (Prod.snd (Prod.snd (Prod.snd (Prod.snd (Prod.snd (Prod.snd (Prod.snd (Prod.snd (Prod.snd (Prod.snd (Prod.snd (Prod.snd (Prod.snd (Prod.snd (Prod.snd (Prod.snd (Prod.snd (Prod.snd (Prod.snd (Prod.snd (Prod.snd (Prod.snd (val (v14 x2 x3 x4 x5 x6 x7 x8 x9 A B C D E F G x0)))))))))))))))))))))))))) (Prod.fst (Prod.snd (Prod.snd (Prod.snd (Prod.snd (Prod.snd (Prod.snd (Prod.snd (Prod.snd (Prod.snd (Prod.snd (Prod.snd (Prod.snd (Prod.snd (Prod.snd (Prod.snd (Prod.snd (Prod.snd (Prod.snd (Prod.snd (Prod.snd (Prod.snd (Prod.snd (Prod.snd (Prod.snd (val (v14 x2 x3 x4 x5 x6 x7 x8 x9 A B C D E F G x0))))))))))))))))))))))))))) I J K L M N O P Q (Prod.fst (val (v14 x2 x3 x4 x5 x6 x7 x8 x9 A B C D E F G x0))) (Prod.fst (Prod.snd (val (v14 x2 x3 x4 x5 x6 x7 x8 x9 A B C D E F G x0)))) (Prod.fst (Prod.snd (Prod.snd (val (v14 x2 x3 x4 x5 x6 x7 x8 x9 A B C D E F G x0))))) (Prod.fst (Prod.snd (Prod.snd (Prod.snd (val (v14 x2 x3 x4 x5 x6 x7 x8 x9 A B C D E F G x0)))))) (Prod.fst (Prod.snd (Prod.snd (Prod.snd (Prod.snd (val (v14 x2 x3 x4 x5 x6 x7 x8 x9 A B C D E F G x0))))))) (Prod.fst (Prod.snd (Prod.snd (Prod.snd (Prod.snd (Prod.snd (val (v14 x2 x3 x4 x5 x6 x7 x8 x9 A B C D E F G x0)))))))) (Prod.fst (Prod.snd (Prod.snd (Prod.snd (Prod.snd (Prod.snd (Prod.snd (val (v14 x2 x3 x4 x5 x6 x7 x8 x9 A B C D E F G x0))))))))) (Prod.fst (Prod.snd (Prod.snd (Prod.snd (Prod.snd (Prod.snd (Prod.snd (Prod.snd (val (v14 x2 x3 x4 x5 x6 x7 x8 x9 A B C D E F G x0)))))))))) (Prod.fst (Prod.snd (Prod.snd (Prod.snd (Prod.snd (Prod.snd (Prod.snd (Prod.snd (Prod.snd (val (v14 x2 x3 x4 x5 x6 x7 x8 x9 A B C D E F G x0))))))))))) (Prod.fst (Prod.snd (Prod.snd (Prod.snd (Prod.snd (Prod.snd (Prod.snd (Prod.snd (Prod.snd (Prod.snd (val (v14 x2 x3 x4 x5 x6 x7 x8 x9 A B C D E F G x0)))))))))))) (Prod.fst (Prod.snd (Prod.snd (Prod.snd (Prod.snd (Prod.snd (Prod.snd (Prod.snd (Prod.snd (Prod.snd (Prod.snd (val (v14 x2 x3 x4 x5 x6 x7 x8 x9 A B C D E F G x0))))))))))))) (Prod.fst (Prod.snd (Prod.snd (Prod.snd (Prod.snd (Prod.snd (Prod.snd (Prod.snd (Prod.snd (Prod.snd (Prod.snd (Prod.snd (val (v14 x2 x3 x4 x5 x6 x7 x8 x9 A B C D E F G x0)))))))))))))) (Prod.fst (Prod.snd (Prod.snd (Prod.snd (Prod.snd (Prod.snd (Prod.snd (Prod.snd (Prod.snd (Prod.snd (Prod.snd (Prod.snd (Prod.snd (val (v14 x2 x3 x4 x5 x6 x7 x8 x9 A B C D E F G x0))))))))))))))) (Prod.fst (Prod.snd (Prod.snd (Prod.snd (Prod.snd (Prod.snd (Prod.snd (Prod.snd (Prod.snd (Prod.snd (Prod.snd (Prod.snd (Prod.snd (Prod.snd (val (v14 x2 x3 x4 x5 x6 x7 x8 x9 A B C D E F G x0)))))))))))))))) (Prod.fst (Prod.snd (Prod.snd (Prod.snd (Prod.snd (Prod.snd (Prod.snd (Prod.snd (Prod.snd (Prod.snd (Prod.snd (Prod.snd (Prod.snd (Prod.snd (Prod.snd (val (v14 x2 x3 x4 x5 x6 x7 x8 x9 A B C D E F G x0))))))))))))))))) (Prod.fst (Prod.snd (Prod.snd (Prod.snd (Prod.snd (Prod.snd (Prod.snd (Prod.snd (Prod.snd (Prod.snd (Prod.snd (Prod.snd (Prod.snd (Prod.snd (Prod.snd (Prod.snd (val (v14 x2 x3 x4 x5 x6 x7 x8 x9 A B C D E F G x0)))))))))))))))))) (Prod.fst (Prod.snd (Prod.snd (Prod.snd (Prod.snd (Prod.snd (Prod.snd (Prod.snd (Prod.snd (Prod.snd (Prod.snd (Prod.snd (Prod.snd (Prod.snd (Prod.snd (Prod.snd (Prod.snd (val (v14 x2 x3 x4 x5 x6 x7 x8 x9 A B C D E F G x0))))))))))))))))))) (Prod.fst (Prod.snd (Prod.snd (Prod.snd (Prod.snd (Prod.snd (Prod.snd (Prod.snd (Prod.snd (Prod.snd (Prod.snd (Prod.snd (Prod.snd (Prod.snd (Prod.snd (Prod.snd (Prod.snd (Prod.snd (val (v14 x2 x3 x4 x5 x6 x7 x8 x9 A B C D E F G x0)))))))))))))))))))) (Prod.fst (Prod.snd (Prod.snd (Prod.snd (Prod.snd (Prod.snd (Prod.snd (Prod.snd (Prod.snd (Prod.snd (Prod.snd (Prod.snd (Prod.snd (Prod.snd (Prod.snd (Prod.snd (Prod.snd (Prod.snd (Prod.snd (val (v14 x2 x3 x4 x5 x6 x7 x8 x9 A B C D E F G x0))))))))))))))))))))) (Prod.fst (Prod.snd (Prod.snd (Prod.snd (Prod.snd (Prod.snd (Prod.snd (Prod.snd (Prod.snd (Prod.snd (Prod.snd (Prod.snd (Prod.snd (Prod.snd (Prod.snd (Prod.snd (Prod.snd (Prod.snd (Prod.snd (Prod.snd (val (v14 x2 x3 x4 x5 x6 x7 x8 x9 A B C D E F G x0)))))))))))))))))))))) (Prod.fst (Prod.snd (Prod.snd (Prod.snd (Prod.snd (Prod.snd (Prod.snd (Prod.snd (Prod.snd (Prod.snd (Prod.snd (Prod.snd (Prod.snd (Prod.snd (Prod.snd (Prod.snd (Prod.snd (Prod.snd (Prod.snd (Prod.snd (Prod.snd (val (v14 x2 x3 x4 x5 x6 x7 x8 x9 A B C D E F G x0))))))))))))))))))))))) (Prod.fst (Prod.snd (Prod.snd (Prod.snd (Prod.snd (Prod.snd (Prod.snd (Prod.snd (Prod.snd (Prod.snd (Prod.snd (Prod.snd (Prod.snd (Prod.snd (Prod.snd (Prod.snd (Prod.snd (Prod.snd (Prod.snd (Prod.snd (Prod.snd (Prod.snd (val (v14 x2 x3 x4 x5 x6 x7 x8 x9 A B C D E F G x0)))))))))))))))))))))))) (Prod.fst (Prod.snd (Prod.snd (Prod.snd (Prod.snd (Prod.snd (Prod.snd (Prod.snd (Prod.snd (Prod.snd (Prod.snd (Prod.snd (Prod.snd (Prod.snd (Prod.snd (Prod.snd (Prod.snd (Prod.snd (Prod.snd (Prod.snd (Prod.snd (Prod.snd (Prod.snd (val (v14 x2 x3 x4 x5 x6 x7 x8 x9 A B C D E F G x0)))))))))))))))))))))))))))) none))) none)
noncomputable def xL5_44_0 (x0 : Int) (x1 : Bool) (x2 x3 x4 x5 x6 : Int) (x7 : (List (List (PKt × Int)))) (x8 x9 A B C D E F G I J K L M N : Int) (O : Bool) (P : Bool) (Q : Int) : Bool → Ex × CS := fun r => (.ret, { sl := [(4, .v (.sc (.bool (r))))], lo := [], h := [], n0 := 0, w := true })
theorem bL5_44_0 (k : Nat) (cX : Ex → CS → Option (Ex × CS)) (x0 : Int) (x1 : Bool) (x2 x3 x4 x5 x6 : Int) (x7 : (List (List (PKt × Int)))) (x8 x9 A B C D E F G I J K L M N : Int) (O : Bool) (P : Bool) (Q : Int) : pieceBody Try.prog (mkTn base o45 t45 5) (TM.evF Try.prog (mkTn base o45 t45) dOk (k + 40)) dOk (k + 40) (codeAt Try.prog (tn0 5) 5 44) 0 44 { sl := [(1, .v (.sc (I4 (x0)))), (2, .l 2 0), (5, .v (.sc (.bool (x1)))), (6, .l 6 0)], lo := [(2, [I4 (x2), I4 (x3), I4 (x4), I4 (x5), I4 (x6), .d 51 (.list 55 QDy) (x7), I4 (x8), I4 (x9), I4 (A), I4 (B), I4 (C), I4 (D), I4 (E), I4 (F), .int .u64 (G)]), (6, [I4 (I), I4 (J), I4 (K), I4 (L), I4 (M), I4 (N), .bool (O), .bool (P), I4 (Q)])], h := [], n0 := 0, w := false } cX = (cond (ok (v14 x2 x3 x4 x5 x6 x7 x8 x9 A B C D E F G x0)) (cond (Prod.snd (Prod.snd (Prod.snd (Prod.snd (Prod.snd (Prod.snd (Prod.snd (Prod.snd (Prod.snd (Prod.snd (Prod.snd (Prod.snd (Prod.snd (Prod.snd (Prod.snd (Prod.snd (Prod.snd (Prod.snd (Prod.snd (Prod.snd (Prod.snd (Prod.snd (Prod.snd (Prod.snd (Prod.snd (val (v14 x2 x3 x4 x5 x6 x7 x8 x9 A B C D E F G x0)))))))))))))))))))))))))) != 0) (cond (x1) (cond (!Prod.fst (Prod.snd (Prod.snd (Prod.snd (Prod.snd (Prod.snd (Prod.snd (Prod.snd (Prod.snd (Prod.snd (Prod.snd (Prod.snd (Prod.snd (Prod.snd (Prod.snd (Prod.snd (Prod.snd (Prod.snd (Prod.snd (Prod.snd (Prod.snd (Prod.snd (Prod.snd (Prod.snd (val (v14 x2 x3 x4 x5 x6 x7 x8 x9 A B C D E F G x0)))))))))))))))))))))))))) (cX .ret { sl := [(4, .v (.sc (.bool (true))))], lo := [], h := [], n0 := 0, w := true }) (cond (!Prod.fst (Prod.snd (Prod.snd (Prod.snd (Prod.snd (Prod.snd (Prod.snd (Prod.snd (Prod.snd (Prod.snd (Prod.snd (Prod.snd (Prod.snd (Prod.snd (Prod.snd (Prod.snd (Prod.snd (Prod.snd (Prod.snd (Prod.snd (Prod.snd (Prod.snd (Prod.snd (val (v14 x2 x3 x4 x5 x6 x7 x8 x9 A B C D E F G x0))))))))))))))))))))))))) (cX .ret { sl := [(4, .v (.sc (.bool (true))))], lo := [], h := [], n0 := 0, w := true }) (cond (Prod.fst (Prod.snd (Prod.snd (Prod.snd (Prod.snd (Prod.snd (Prod.snd (Prod.snd (Prod.snd (Prod.snd (Prod.snd (Prod.snd (Prod.snd (Prod.snd (Prod.snd (Prod.snd (Prod.snd (Prod.snd (Prod.snd (Prod.snd (Prod.snd (Prod.snd (val (v14 x2 x3 x4 x5 x6 x7 x8 x9 A B C D E F G x0)))))))))))))))))))))))) (cX .ret { sl := [(4, .v (.sc (.bool (true))))], lo := [], h := [], n0 := 0, w := true }) (cond (Prod.snd (Prod.snd (Prod.snd (Prod.snd (Prod.snd (Prod.snd (Prod.snd (Prod.snd (Prod.snd (Prod.snd (Prod.snd (Prod.snd (Prod.snd (Prod.snd (Prod.snd (Prod.snd (Prod.snd (Prod.snd (Prod.snd (Prod.snd (Prod.snd (Prod.snd (Prod.snd (Prod.snd (Prod.snd (val (v14 x2 x3 x4 x5 x6 x7 x8 x9 A B C D E F G x0)))))))))))))))))))))))))) == 0) (cond (decide (0 < (↑(List.length x7) : Int))) (cond (ok (v23 (List.getD x7 (Int.toNat 0) []) (Prod.fst (Prod.snd (Prod.snd (Prod.snd (Prod.snd (Prod.snd (Prod.snd (Prod.snd (Prod.snd (Prod.snd (Prod.snd (Prod.snd (Prod.snd (Prod.snd (Prod.snd (Prod.snd (val (v14 x2 x3 x4 x5 x6 x7 x8 x9 A B C D E F G x0)))))))))))))))))) (Prod.fst (Prod.snd (Prod.snd (Prod.snd (Prod.snd (Prod.snd (Prod.snd (Prod.snd (Prod.snd (Prod.snd (Prod.snd (Prod.snd (Prod.snd (Prod.snd (Prod.snd (Prod.snd (Prod.snd (val (v14 x2 x3 x4 x5 x6 x7 x8 x9 A B C D E F G x0))))))))))))))))))) (Prod.fst (Prod.snd (Prod.snd (Prod.snd (Prod.snd (Prod.snd (Prod.snd (Prod.snd (Prod.snd (Prod.snd (Prod.snd (Prod.snd (Prod.snd (Prod.snd (Prod.snd (Prod.snd (Prod.snd (Prod.snd (val (v14 x2 x3 x4 x5 x6 x7 x8 x9 A B C D E F G x0)))))))))))))))))))) (Prod.fst (Prod.snd (Prod.snd (Prod.snd (Prod.snd (Prod.snd (Prod.snd (Prod.snd (Prod.snd (Prod.snd (Prod.snd (Prod.snd (Prod.snd (Prod.snd (Prod.snd (Prod.snd (Prod.snd (Prod.snd (Prod.snd (val (v14 x2 x3 x4 x5 x6 x7 x8 x9 A B C D E F G x0))))))))))))))))))))) (Prod.fst (Prod.snd (Prod.snd (Prod.snd (Prod.snd (Prod.snd (Prod.snd (Prod.snd (Prod.snd (Prod.snd (Prod.snd (Prod.snd (Prod.snd (Prod.snd (Prod.snd (Prod.snd (Prod.snd (Prod.snd (Prod.snd (Prod.snd (val (v14 x2 x3 x4 x5 x6 x7 x8 x9 A B C D E F G x0)))))))))))))))))))))) (Prod.fst (Prod.snd (Prod.snd (Prod.snd (Prod.snd (Prod.snd (Prod.snd (Prod.snd (Prod.snd (Prod.snd (Prod.snd (Prod.snd (Prod.snd (Prod.snd (Prod.snd (Prod.snd (Prod.snd (Prod.snd (Prod.snd (Prod.snd (Prod.snd (val (v14 x2 x3 x4 x5 x6 x7 x8 x9 A B C D E F G x0))))))))))))))))))))))) (Prod.fst (Prod.snd (Prod.snd (Prod.snd (Prod.snd (Prod.snd (Prod.snd (Prod.snd (Prod.snd (Prod.snd (Prod.snd (Prod.snd (Prod.snd (Prod.snd (Prod.snd (Prod.snd (Prod.snd (Prod.snd (Prod.snd (Prod.snd (Prod.snd (Prod.snd (val (v14 x2 x3 x4 x5 x6 x7 x8 x9 A B C D E F G x0)))))))))))))))))))))))) (Prod.fst (Prod.snd (Prod.snd (Prod.snd (Prod.snd (Prod.snd (Prod.snd (Prod.snd (Prod.snd (Prod.snd (Prod.snd (Prod.snd (Prod.snd (Prod.snd (Prod.snd (Prod.snd (Prod.snd (Prod.snd (Prod.snd (Prod.snd (Prod.snd (Prod.snd (Prod.snd (val (v14 x2 x3 x4 x5 x6 x7 x8 x9 A B C D E F G x0))))))))))))))))))))))))))) (cX .ret { sl := [(4, .v (.sc (.bool (val (v23 (List.getD x7 (Int.toNat 0) []) (Prod.fst (Prod.snd (Prod.snd (Prod.snd (Prod.snd (Prod.snd (Prod.snd (Prod.snd (Prod.snd (Prod.snd (Prod.snd (Prod.snd (Prod.snd (Prod.snd (Prod.snd (Prod.snd (val (v14 x2 x3 x4 x5 x6 x7 x8 x9 A B C D E F G x0)))))))))))))))))) (Prod.fst (Prod.snd (Prod.snd (Prod.snd (Prod.snd (Prod.snd (Prod.snd (Prod.snd (Prod.snd (Prod.snd (Prod.snd (Prod.snd (Prod.snd (Prod.snd (Prod.snd (Prod.snd (Prod.snd (val (v14 x2 x3 x4 x5 x6 x7 x8 x9 A B C D E F G x0))))))))))))))))))) (Prod.fst (Prod.snd (Prod.snd (Prod.snd (Prod.snd (Prod.snd (Prod.snd (Prod.snd (Prod.snd (Prod.snd (Prod.snd (Prod.snd (Prod.snd (Prod.snd (Prod.snd (Prod.snd (Prod.snd (Prod.snd (val (v14 x2 x3 x4 x5 x6 x7 x8 x9 A B C D E F G x0)))))))))))))))))))) (Prod.fst (Prod.snd (Prod.snd (Prod.snd (Prod.snd (Prod.snd (Prod.snd (Prod.snd (Prod.snd (Prod.snd (Prod.snd (Prod.snd (Prod.snd (Prod.snd (Prod.snd (Prod.snd (Prod.snd (Prod.snd (Prod.snd (val (v14 x2 x3 x4 x5 x6 x7 x8 x9 A B C D E F G x0))))))))))))))))))))) (Prod.fst (Prod.snd (Prod.snd (Prod.snd (Prod.snd (Prod.snd (Prod.snd (Prod.snd (Prod.snd (Prod.snd (Prod.snd (Prod.snd (Prod.snd (Prod.snd (Prod.snd (Prod.snd (Prod.snd (Prod.snd (Prod.snd (Prod.snd (val (v14 x2 x3 x4 x5 x6 x7 x8 x9 A B C D E F G x0)))))))))))))))))))))) (Prod.fst (Prod.snd (Prod.snd (Prod.snd (Prod.snd (Prod.snd (Prod.snd (Prod.snd (Prod.snd (Prod.snd (Prod.snd (Prod.snd (Prod.snd (Prod.snd (Prod.snd (Prod.snd (Prod.snd (Prod.snd (Prod.snd (Prod.snd (Prod.snd (val (v14 x2 x3 x4 x5 x6 x7 x8 x9 A B C D E F G x0))))))))))))))))))))))) (Prod.fst (Prod.snd (Prod.snd (Prod.snd (Prod.snd (Prod.snd (Prod.snd (Prod.snd (Prod.snd (Prod.snd (Prod.snd (Prod.snd (Prod.snd (Prod.snd (Prod.snd (Prod.snd (Prod.snd (Prod.snd (Prod.snd (Prod.snd (Prod.snd (Prod.snd (val (v14 x2 x3 x4 x5 x6 x7 x8 x9 A B C D E F G x0)))))))))))))))))))))))) (Prod.fst (Prod.snd (Prod.snd (Prod.snd (Prod.snd (Prod.snd (Prod.snd (Prod.snd (Prod.snd (Prod.snd (Prod.snd (Prod.snd (Prod.snd (Prod.snd (Prod.snd (Prod.snd (Prod.snd (Prod.snd (Prod.snd (Prod.snd (Prod.snd (Prod.snd (Prod.snd (val (v14 x2 x3 x4 x5 x6 x7 x8 x9 A B C D E F G x0))))))))))))))))))))))))))))))], lo := [], h := [], n0 := 0, w := true }) none) none) (cX .ret { sl := [(4, .v (.sc (.bool (false))))], lo := [], h := [], n0 := 0, w := true }))))) (cX .ret { sl := [(4, .v (.sc (.bool (false))))], lo := [], h := [], n0 := 0, w := true })) (cond (decide (IntKind.wrap IntKind.i64 (x0 - Q) ≥ x3)) (cond (x1) (cond (!Prod.fst (Prod.snd (Prod.snd (Prod.snd (Prod.snd (Prod.snd (Prod.snd (Prod.snd (Prod.snd (Prod.snd (Prod.snd (Prod.snd (Prod.snd (Prod.snd (Prod.snd (Prod.snd (Prod.snd (Prod.snd (Prod.snd (Prod.snd (Prod.snd (Prod.snd (Prod.snd (Prod.snd (val (v14 x2 x3 x4 x5 x6 x7 x8 x9 A B C D E F G x0)))))))))))))))))))))))))) (cX .ret { sl := [(4, .v (.sc (.bool (true))))], lo := [], h := [], n0 := 0, w := true }) (cond (!Prod.fst (Prod.snd (Prod.snd (Prod.snd (Prod.snd (Prod.snd (Prod.snd (Prod.snd (Prod.snd (Prod.snd (Prod.snd (Prod.snd (Prod.snd (Prod.snd (Prod.snd (Prod.snd (Prod.snd (Prod.snd (Prod.snd (Prod.snd (Prod.snd (Prod.snd (Prod.snd (val (v14 x2 x3 x4 x5 x6 x7 x8 x9 A B C D E F G x0))))))))))))))))))))))))) (cX .ret { sl := [(4, .v (.sc (.bool (true))))], lo := [], h := [], n0 := 0, w := true }) (cond (Prod.fst (Prod.snd (Prod.snd (Prod.snd (Prod.snd (Prod.snd (Prod.snd (Prod.snd (Prod.snd (Prod.snd (Prod.snd (Prod.snd (Prod.snd (Prod.snd (Prod.snd (Prod.snd (Prod.snd (Prod.snd (Prod.snd (Prod.snd (Prod.snd (Prod.snd (val (v14 x2 x3 x4 x5 x6 x7 x8 x9 A B C D E F G x0)))))))))))))))))))))))) (cX .ret { sl := [(4, .v (.sc (.bool (true))))], lo := [], h := [], n0 := 0, w := true }) (cond (Prod.snd (Prod.snd (Prod.snd (Prod.snd (Prod.snd (Prod.snd (Prod.snd (Prod.snd (Prod.snd (Prod.snd (Prod.snd (Prod.snd (Prod.snd (Prod.snd (Prod.snd (Prod.snd (Prod.snd (Prod.snd (Prod.snd (Prod.snd (Prod.snd (Prod.snd (Prod.snd (Prod.snd (Prod.snd (val (v14 x2 x3 x4 x5 x6 x7 x8 x9 A B C D E F G x0)))))))))))))))))))))))))) == 0) (cond (decide (0 < (↑(List.length x7) : Int))) (cond (ok (v23 (List.getD x7 (Int.toNat 0) []) (Prod.fst (Prod.snd (Prod.snd (Prod.snd (Prod.snd (Prod.snd (Prod.snd (Prod.snd (Prod.snd (Prod.snd (Prod.snd (Prod.snd (Prod.snd (Prod.snd (Prod.snd (Prod.snd (val (v14 x2 x3 x4 x5 x6 x7 x8 x9 A B C D E F G x0)))))))))))))))))) (Prod.fst (Prod.snd (Prod.snd (Prod.snd (Prod.snd (Prod.snd (Prod.snd (Prod.snd (Prod.snd (Prod.snd (Prod.snd (Prod.snd (Prod.snd (Prod.snd (Prod.snd (Prod.snd (Prod.snd (val (v14 x2 x3 x4 x5 x6 x7 x8 x9 A B C D E F G x0))))))))))))))))))) (Prod.fst (Prod.snd (Prod.snd (Prod.snd (Prod.snd (Prod.snd (Prod.snd (Prod.snd (Prod.snd (Prod.snd (Prod.snd (Prod.snd (Prod.snd (Prod.snd (Prod.snd (Prod.snd (Prod.snd (Prod.snd (val (v14 x2 x3 x4 x5 x6 x7 x8 x9 A B C D E F G x0)))))))))))))))))))) (Prod.fst (Prod.snd (Prod.snd (Prod.snd (Prod.snd (Prod.snd (Prod.snd (Prod.snd (Prod.snd (Prod.snd (Prod.snd (Prod.snd (Prod.snd (Prod.snd (Prod.snd (Prod.snd (Prod.snd (Prod.snd (Prod.snd (val (v14 x2 x3 x4 x5 x6 x7 x8 x9 A B C D E F G x0))))))))))))))))))))) (Prod.fst (Prod.snd (Prod.snd (Prod.snd (Prod.snd (Prod.snd (Prod.snd (Prod.snd (Prod.snd (Prod.snd (Prod.snd (Prod.snd (Prod.snd (Prod.snd (Prod.snd (Prod.snd (Prod.snd (Prod.snd (Prod.snd (Prod.snd (val (v14 x2 x3 x4 x5 x6 x7 x8 x9 A B C D E F G x0)))))))))))))))))))))) (Prod.fst (Prod.snd (Prod.snd (Prod.snd (Prod.snd (Prod.snd (Prod.snd (Prod.snd (Prod.snd (Prod.snd (Prod.snd (Prod.snd (Prod.snd (Prod.snd (Prod.snd (Prod.snd (Prod.snd (Prod.snd (Prod.snd (Prod.snd (Prod.snd (val (v14 x2 x3 x4 x5 x6 x7 x8 x9 A B C D E F G x0))))))))))))))))))))))) (Prod.fst (Prod.snd (Prod.snd (Prod.snd (Prod.snd (Prod.snd (Prod.snd (Prod.snd (Prod.snd (Prod.snd (Prod.snd (Prod.snd (Prod.snd (Prod.snd (Prod.snd (Prod.snd (Prod.snd (Prod.snd (Prod.snd (Prod.snd (Prod.snd (Prod.snd (val (v14 x2 x3 x4 x5 x6 x7 x8 x9 A B C D E F G x0)))))))))))))))))))))))) (Prod.fst (Prod.snd (Prod.snd (Prod.snd (Prod.snd (Prod.snd (Prod.snd (Prod.snd (Prod.snd (Prod.snd (Prod.snd (Prod.snd (Prod.snd (Prod.snd (Prod.snd (Prod.snd (Prod.snd (Prod.snd (Prod.snd (Prod.snd (Prod.snd (Prod.snd (Prod.snd (val (v14 x2 x3 x4 x5 x6 x7 x8 x9 A B C D E F G x0))))))))))))))))))))))))))) (cX .ret { sl := [(4, .v (.sc (.bool (val (v23 (List.getD x7 (Int.toNat 0) []) (Prod.fst (Prod.snd (Prod.snd (Prod.snd (Prod.snd (Prod.snd (Prod.snd (Prod.snd (Prod.snd (Prod.snd (Prod.snd (Prod.snd (Prod.snd (Prod.snd (Prod.snd (Prod.snd (val (v14 x2 x3 x4 x5 x6 x7 x8 x9 A B C D E F G x0)))))))))))))))))) (Prod.fst (Prod.snd (Prod.snd (Prod.snd (Prod.snd (Prod.snd (Prod.snd (Prod.snd (Prod.snd (Prod.snd (Prod.snd (Prod.snd (Prod.snd (Prod.snd (Prod.snd (Prod.snd (Prod.snd (val (v14 x2 x3 x4 x5 x6 x7 x8 x9 A B C D E F G x0))))))))))))))))))) (Prod.fst (Prod.snd (Prod.snd (Prod.snd (Prod.snd (Prod.snd (Prod.snd (Prod.snd (Prod.snd (Prod.snd (Prod.snd (Prod.snd (Prod.snd (Prod.snd (Prod.snd (Prod.snd (Prod.snd (Prod.snd (val (v14 x2 x3 x4 x5 x6 x7 x8 x9 A B C D E F G x0)))))))))))))))))))) (Prod.fst (Prod.snd (Prod.snd (Prod.snd (Prod.snd (Prod.snd (Prod.snd (Prod.snd (Prod.snd (Prod.snd (Prod.snd (Prod.snd (Prod.snd (Prod.snd (Prod.snd (Prod.snd (Prod.snd (Prod.snd (Prod.snd (val (v14 x2 x3 x4 x5 x6 x7 x8 x9 A B C D E F G x0))))))))))))))))))))) (Prod.fst (Prod.snd (Prod.snd (Prod.snd (Prod.snd (Prod.snd (Prod.snd (Prod.snd (Prod.snd (Prod.snd (Prod.snd (Prod.snd (Prod.snd (Prod.snd (Prod.snd (Prod.snd (Prod.snd (Prod.snd (Prod.snd (Prod.snd (val (v14 x2 x3 x4 x5 x6 x7 x8 x9 A B C D E F G x0)))))))))))))))))))))) (Prod.fst (Prod.snd (Prod.snd (Prod.snd (Prod.snd (Prod.snd (Prod.snd (Prod.snd (Prod.snd (Prod.snd (Prod.snd (Prod.snd (Prod.snd (Prod.snd (Prod.snd (Prod.snd (Prod.snd (Prod.snd (Prod.snd (Prod.snd (Prod.snd (val (v14 x2 x3 x4 x5 x6 x7 x8 x9 A B C D E F G x0))))))))))))))))))))))) (Prod.fst (Prod.snd (Prod.snd (Prod.snd (Prod.snd (Prod.snd (Prod.snd (Prod.snd (Prod.snd (Prod.snd (Prod.snd (Prod.snd (Prod.snd (Prod.snd (Prod.snd (Prod.snd (Prod.snd (Prod.snd (Prod.snd (Prod.snd (Prod.snd (Prod.snd (val (v14 x2 x3 x4 x5 x6 x7 x8 x9 A B C D E F G x0)))))))))))))))))))))))) (Prod.fst (Prod.snd (Prod.snd (Prod.snd (Prod.snd (Prod.snd (Prod.snd (Prod.snd (Prod.snd (Prod.snd (Prod.snd (Prod.snd (Prod.snd (Prod.snd (Prod.snd (Prod.snd (Prod.snd (Prod.snd (Prod.snd (Prod.snd (Prod.snd (Prod.snd (Prod.snd (val (v14 x2 x3 x4 x5 x6 x7 x8 x9 A B C D E F G x0))))))))))))))))))))))))))))))], lo := [], h := [], n0 := 0, w := true }) none) none) (cX .ret { sl := [(4, .v (.sc (.bool (false))))], lo := [], h := [], n0 := 0, w := true }))))) (cX .ret { sl := [(4, .v (.sc (.bool (false))))], lo := [], h := [], n0 := 0, w := true })) (cond (ok (L5_68_0 x1 (Prod.fst (Prod.snd (Prod.snd (Prod.snd (Prod.snd (Prod.snd (Prod.snd (Prod.snd (Prod.snd (Prod.snd (Prod.snd (Prod.snd (Prod.snd (Prod.snd (Prod.snd (Prod.snd (Prod.snd (Prod.snd (Prod.snd (Prod.snd (Prod.snd (Prod.snd (Prod.snd (Prod.snd (val (v14 x2 x3 x4 x5 x6 x7 x8 x9 A B C D E F G x0)))))))))))))))))))))))))) (Prod.fst (Prod.snd (Prod.snd (Prod.snd (Prod.snd (Prod.snd (Prod.snd (Prod.snd (Prod.snd (Prod.snd (Prod.snd (Prod.snd (Prod.snd (Prod.snd (Prod.snd (Prod.snd (Prod.snd (Prod.snd (Prod.snd (Prod.snd (Prod.snd (Prod.snd (Prod.snd (Prod.snd (Prod.snd (val (v14 x2 x3 x4 x5 x6 x7 x8 x9 A B C D E F G x0))))))))))))))))))))))))))) I J K L M N O P Q (Prod.fst (val (v14 x2 x3 x4 x5 x6 x7 x8 x9 A B C D E F G x0))) (Prod.fst (Prod.snd (val (v14 x2 x3 x4 x5 x6 x7 x8 x9 A B C D E F G x0)))) (Prod.fst (Prod.snd (Prod.snd (val (v14 x2 x3 x4 x5 x6 x7 x8 x9 A B C D E F G x0))))) (Prod.fst (Prod.snd (Prod.snd (Prod.snd (val (v14 x2 x3 x4 x5 x6 x7 x8 x9 A B C D E F G x0)))))) (Prod.fst (Prod.snd (Prod.snd (Prod.snd (Prod.snd (val (v14 x2 x3 x4 x5 x6 x7 x8 x9 A B C D E F G x0))))))) (Prod.fst (Prod.snd (Prod.snd (Prod.snd (Prod.snd (Prod.snd (val (v14 x2 x3 x4 x5 x6 x7 x8 x9 A B C D E F G x0)))))))) (Prod.fst (Prod.snd (Prod.snd (Prod.snd (Prod.snd (Prod.snd (Prod.snd (val (v14 x2 x3 x4 x5 x6 x7 x8 x9 A B C D E F G x0))))))))) (Prod.fst (Prod.snd (Prod.snd (Prod.snd (Prod.snd (Prod.snd (Prod.snd (Prod.snd (val (v14 x2 x3 x4 x5 x6 x7 x8 x9 A B C D E F G x0)))))))))) (Prod.fst (Prod.snd (Prod.snd (Prod.snd (Prod.snd (Prod.snd (Prod.snd (Prod.snd (Prod.snd (val (v14 x2 x3 x4 x5 x6 x7 x8 x9 A B C D E F G x0))))))))))) (Prod.fst (Prod.snd (Prod.snd (Prod.snd (Prod.snd (Prod.snd (Prod.snd (Prod.snd (Prod.snd (Prod.snd (val (v14 x2 x3 x4 x5 x6 x7 x8 x9 A B C D E F G x0)))))))))))) (Prod.fst (Prod.snd (Prod.snd (Prod.snd (Prod.snd (Prod.snd (Prod.snd (Prod.snd (Prod.snd (Prod.snd (Prod.snd (val (v14 x2 x3 x4 x5 x6 x7 x8 x9 A B C D E F G x0))))))))))))) (Prod.fst (Prod.snd (Prod.snd (Prod.snd (Prod.snd (Prod.snd (Prod.snd (Prod.snd (Prod.snd (Prod.snd (Prod.snd (Prod.snd (val (v14 x2 x3 x4 x5 x6 x7 x8 x9 A B C D E F G x0)))))))))))))) (Prod.fst (Prod.snd (Prod.snd (Prod.snd (Prod.snd (Prod.snd (Prod.snd (Prod.snd (Prod.snd (Prod.snd (Prod.snd (Prod.snd (Prod.snd (val (v14 x2 x3 x4 x5 x6 x7 x8 x9 A B C D E F G x0))))))))))))))) (Prod.fst (Prod.snd (Prod.snd (Prod.snd (Prod.snd (Prod.snd (Prod.snd (Prod.snd (Prod.snd (Prod.snd (Prod.snd (Prod.snd (Prod.snd (Prod.snd (val (v14 x2 x3 x4 x5 x6 x7 x8 x9 A B C D E F G x0)))))))))))))))) (Prod.fst (Prod.snd (Prod.snd (Prod.snd (Prod.snd (Prod.snd (Prod.snd (Prod.snd (Prod.snd (Prod.snd (Prod.snd (Prod.snd (Prod.snd (Prod.snd (Prod.snd (val (v14 x2 x3 x4 x5 x6 x7 x8 x9 A B C D E F G x0))))))))))))))))) (Prod.fst (Prod.snd (Prod.snd (Prod.snd (Prod.snd (Prod.snd (Prod.snd (Prod.snd (Prod.snd (Prod.snd (Prod.snd (Prod.snd (Prod.snd (Prod.snd (Prod.snd (Prod.snd (val (v14 x2 x3 x4 x5 x6 x7 x8 x9 A B C D E F G x0)))))))))))))))))) (Prod.fst (Prod.snd (Prod.snd (Prod.snd (Prod.snd (Prod.snd (Prod.snd (Prod.snd (Prod.snd (Prod.snd (Prod.snd (Prod.snd (Prod.snd (Prod.snd (Prod.snd (Prod.snd (Prod.snd (val (v14 x2 x3 x4 x5 x6 x7 x8 x9 A B C D E F G x0))))))))))))))))))) (Prod.fst (Prod.snd (Prod.snd (Prod.snd (Prod.snd (Prod.snd (Prod.snd (Prod.snd (Prod.snd (Prod.snd (Prod.snd (Prod.snd (Prod.snd (Prod.snd (Prod.snd (Prod.snd (Prod.snd (Prod.snd (val (v14 x2 x3 x4 x5 x6 x7 x8 x9 A B C D E F G x0)))))))))))))))))))) (Prod.fst (Prod.snd (Prod.snd (Prod.snd (Prod.snd (Prod.snd (Prod.snd (Prod.snd (Prod.snd (Prod.snd (Prod.snd (Prod.snd (Prod.snd (Prod.snd (Prod.snd (Prod.snd (Prod.snd (Prod.snd (Prod.snd (val (v14 x2 x3 x4 x5 x6 x7 x8 x9 A B C D E F G x0))))))))))))))))))))) (Prod.fst (Prod.snd (Prod.snd (Prod.snd (Prod.snd (Prod.snd (Prod.snd (Prod.snd (Prod.snd (Prod.snd (Prod.snd (Prod.snd (Prod.snd (Prod.snd (Prod.snd (Prod.snd (Prod.snd (Prod.snd (Prod.snd (Prod.snd (val (v14 x2 x3 x4 x5 x6 x7 x8 x9 A B C D E F G x0)))))))))))))))))))))) (Prod.fst (Prod.snd (Prod.snd (Prod.snd (Prod.snd (Prod.snd (Prod.snd (Prod.snd (Prod.snd (Prod.snd (Prod.snd (Prod.snd (Prod.snd (Prod.snd (Prod.snd (Prod.snd (Prod.snd (Prod.snd (Prod.snd (Prod.snd (Prod.snd (val (v14 x2 x3 x4 x5 x6 x7 x8 x9 A B C D E F G x0))))))))))))))))))))))) (Prod.fst (Prod.snd (Prod.snd (Prod.snd (Prod.snd (Prod.snd (Prod.snd (Prod.snd (Prod.snd (Prod.snd (Prod.snd (Prod.snd (Prod.snd (Prod.snd (Prod.snd (Prod.snd (Prod.snd (Prod.snd (Prod.snd (Prod.snd (Prod.snd (Prod.snd (val (v14 x2 x3 x4 x5 x6 x7 x8 x9 A B C D E F G x0)))))))))))))))))))))))) (Prod.fst (Prod.snd (Prod.snd (Prod.snd (Prod.snd (Prod.snd (Prod.snd (Prod.snd (Prod.snd (Prod.snd (Prod.snd (Prod.snd (Prod.snd (Prod.snd (Prod.snd (Prod.snd (Prod.snd (Prod.snd (Prod.snd (Prod.snd (Prod.snd (Prod.snd (Prod.snd (val (v14 x2 x3 x4 x5 x6 x7 x8 x9 A B C D E F G x0))))))))))))))))))))))))))) (cX .ret { sl := [(4, .v (.sc (.bool (val (L5_68_0 x1 (Prod.fst (Prod.snd (Prod.snd (Prod.snd (Prod.snd (Prod.snd (Prod.snd (Prod.snd (Prod.snd (Prod.snd (Prod.snd (Prod.snd (Prod.snd (Prod.snd (Prod.snd (Prod.snd (Prod.snd (Prod.snd (Prod.snd (Prod.snd (Prod.snd (Prod.snd (Prod.snd (Prod.snd (val (v14 x2 x3 x4 x5 x6 x7 x8 x9 A B C D E F G x0)))))))))))))))))))))))))) (Prod.fst (Prod.snd (Prod.snd (Prod.snd (Prod.snd (Prod.snd (Prod.snd (Prod.snd (Prod.snd (Prod.snd (Prod.snd (Prod.snd (Prod.snd (Prod.snd (Prod.snd (Prod.snd (Prod.snd (Prod.snd (Prod.snd (Prod.snd (Prod.snd (Prod.snd (Prod.snd (Prod.snd (Prod.snd (val (v14 x2 x3 x4 x5 x6 x7 x8 x9 A B C D E F G x0))))))))))))))))))))))))))) I J K L M N O P Q (Prod.fst (val (v14 x2 x3 x4 x5 x6 x7 x8 x9 A B C D E F G x0))) (Prod.fst (Prod.snd (val (v14 x2 x3 x4 x5 x6 x7 x8 x9 A B C D E F G x0)))) (Prod.fst (Prod.snd (Prod.snd (val (v14 x2 x3 x4 x5 x6 x7 x8 x9 A B C D E F G x0))))) (Prod.fst (Prod.snd (Prod.snd (Prod.snd (val (v14 x2 x3 x4 x5 x6 x7 x8 x9 A B C D E F G x0)))))) (Prod.fst (Prod.snd (Prod.snd (Prod.snd (Prod.snd (val (v14 x2 x3 x4 x5 x6 x7 x8 x9 A B C D E F G x0))))))) (Prod.fst (Prod.snd (Prod.snd (Prod.snd (Prod.snd (Prod.snd (val (v14 x2 x3 x4 x5 x6 x7 x8 x9 A B C D E F G x0)))))))) (Prod.fst (Prod.snd (Prod.snd (Prod.snd (Prod.snd (Prod.snd (Prod.snd (val (v14 x2 x3 x4 x5 x6 x7 x8 x9 A B C D E F G x0))))))))) (Prod.fst (Prod.snd (Prod.snd (Prod.snd (Prod.snd (Prod.snd (Prod.snd (Prod.snd (val (v14 x2 x3 x4 x5 x6 x7 x8 x9 A B C D E F G x0)))))))))) (Prod.fst (Prod.snd (Prod.snd (Prod.snd (Prod.snd (Prod.snd (Prod.snd (Prod.snd (Prod.snd (val (v14 x2 x3 x4 x5 x6 x7 x8 x9 A B C D E F G x0))))))))))) (Prod.fst (Prod.snd (Prod.snd (Prod.snd (Prod.snd (Prod.snd (Prod.snd (Prod.snd (Prod.snd (Prod.snd (val (v14 x2 x3 x4 x5 x6 x7 x8 x9 A B C D E F G x0)))))))))))) (Prod.fst (Prod.snd (Prod.snd (Prod.snd (Prod.snd (Prod.snd (Prod.snd (Prod.snd (Prod.snd (Prod.snd (Prod.snd (val (v14 x2 x3 x4 x5 x6 x7 x8 x9 A B C D E F G x0))))))))))))) (Prod.fst (Prod.snd (Prod.snd (Prod.snd (Prod.snd (Prod.snd (Prod.snd (Prod.snd (Prod.snd (Prod.snd (Prod.snd (Prod.snd (val (v14 x2 x3 x4 x5 x6 x7 x8 x9 A B C D E F G x0)))))))))))))) (Prod.fst (Prod.snd (Prod.snd (Prod.snd (Prod.snd (Prod.snd (Prod.snd (Prod.snd (Prod.snd (Prod.snd (Prod.snd (Prod.snd (Prod.snd (val (v14 x2 x3 x4 x5 x6 x7 x8 x9 A B C D E F G x0))))))))))))))) (Prod.fst (Prod.snd (Prod.snd (Prod.snd (Prod.snd (Prod.snd (Prod.snd (Prod.snd (Prod.snd (Prod.snd (Prod.snd (Prod.snd (Prod.snd (Prod.snd (val (v14 x2 x3 x4 x5 x6 x7 x8 x9 A B C D E F G x0)))))))))))))))) (Prod.fst (Prod.snd (Prod.snd (Prod.snd (Prod.snd (Prod.snd (Prod.snd (Prod.snd (Prod.snd (Prod.snd (Prod.snd (Prod.snd (Prod.snd (Prod.snd (Prod.snd (val (v14 x2 x3 x4 x5 x6 x7 x8 x9 A B C D E F G x0))))))))))))))))) (Prod.fst (Prod.snd (Prod.snd (Prod.snd (Prod.snd (Prod.snd (Prod.snd (Prod.snd (Prod.snd (Prod.snd (Prod.snd (Prod.snd (Prod.snd (Prod.snd (Prod.snd (Prod.snd (val (v14 x2 x3 x4 x5 x6 x7 x8 x9 A B C D E F G x0)))))))))))))))))) (Prod.fst (Prod.snd (Prod.snd (Prod.snd (Prod.snd (Prod.snd (Prod.snd (Prod.snd (Prod.snd (Prod.snd (Prod.snd (Prod.snd (Prod.snd (Prod.snd (Prod.snd (Prod.snd (Prod.snd (val (v14 x2 x3 x4 x5 x6 x7 x8 x9 A B C D E F G x0))))))))))))))))))) (Prod.fst (Prod.snd (Prod.snd (Prod.snd (Prod.snd (Prod.snd (Prod.snd (Prod.snd (Prod.snd (Prod.snd (Prod.snd (Prod.snd (Prod.snd (Prod.snd (Prod.snd (Prod.snd (Prod.snd (Prod.snd (val (v14 x2 x3 x4 x5 x6 x7 x8 x9 A B C D E F G x0)))))))))))))))))))) (Prod.fst (Prod.snd (Prod.snd (Prod.snd (Prod.snd (Prod.snd (Prod.snd (Prod.snd (Prod.snd (Prod.snd (Prod.snd (Prod.snd (Prod.snd (Prod.snd (Prod.snd (Prod.snd (Prod.snd (Prod.snd (Prod.snd (val (v14 x2 x3 x4 x5 x6 x7 x8 x9 A B C D E F G x0))))))))))))))))))))) (Prod.fst (Prod.snd (Prod.snd (Prod.snd (Prod.snd (Prod.snd (Prod.snd (Prod.snd (Prod.snd (Prod.snd (Prod.snd (Prod.snd (Prod.snd (Prod.snd (Prod.snd (Prod.snd (Prod.snd (Prod.snd (Prod.snd (Prod.snd (val (v14 x2 x3 x4 x5 x6 x7 x8 x9 A B C D E F G x0)))))))))))))))))))))) (Prod.fst (Prod.snd (Prod.snd (Prod.snd (Prod.snd (Prod.snd (Prod.snd (Prod.snd (Prod.snd (Prod.snd (Prod.snd (Prod.snd (Prod.snd (Prod.snd (Prod.snd (Prod.snd (Prod.snd (Prod.snd (Prod.snd (Prod.snd (Prod.snd (val (v14 x2 x3 x4 x5 x6 x7 x8 x9 A B C D E F G x0))))))))))))))))))))))) (Prod.fst (Prod.snd (Prod.snd (Prod.snd (Prod.snd (Prod.snd (Prod.snd (Prod.snd (Prod.snd (Prod.snd (Prod.snd (Prod.snd (Prod.snd (Prod.snd (Prod.snd (Prod.snd (Prod.snd (Prod.snd (Prod.snd (Prod.snd (Prod.snd (Prod.snd (val (v14 x2 x3 x4 x5 x6 x7 x8 x9 A B C D E F G x0)))))))))))))))))))))))) (Prod.fst (Prod.snd (Prod.snd (Prod.snd (Prod.snd (Prod.snd (Prod.snd (Prod.snd (Prod.snd (Prod.snd (Prod.snd (Prod.snd (Prod.snd (Prod.snd (Prod.snd (Prod.snd (Prod.snd (Prod.snd (Prod.snd (Prod.snd (Prod.snd (Prod.snd (Prod.snd (val (v14 x2 x3 x4 x5 x6 x7 x8 x9 A B C D E F G x0))))))))))))))))))))))))))))))], lo := [], h := [], n0 := 0, w := true }) none))) none) := by kernel_rfl
theorem lL5_44_0 (k : Nat) (x0 : Int) (x1 : Bool) (x2 x3 x4 x5 x6 : Int) (x7 : (List (List (PKt × Int)))) (x8 x9 A B C D E F G I J K L M N : Int) (O : Bool) (P : Bool) (Q : Int) (r : Bool) : L5_44_0 x0 x1 x2 x3 x4 x5 x6 x7 x8 x9 A B C D E F G I J K L M N O P Q = some r → pieceBody Try.prog (mkTn base o45 t45 5) (TM.evF Try.prog (mkTn base o45 t45) dOk (k + 40)) dOk (k + 40) (codeAt Try.prog (tn0 5) 5 44) 0 44 { sl := [(1, .v (.sc (I4 (x0)))), (2, .l 2 0), (5, .v (.sc (.bool (x1)))), (6, .l 6 0)], lo := [(2, [I4 (x2), I4 (x3), I4 (x4), I4 (x5), I4 (x6), .d 51 (.list 55 QDy) (x7), I4 (x8), I4 (x9), I4 (A), I4 (B), I4 (C), I4 (D), I4 (E), I4 (F), .int .u64 (G)]), (6, [I4 (I), I4 (J), I4 (K), I4 (L), I4 (M), I4 (N), .bool (O), .bool (P), I4 (Q)])], h := [], n0 := 0, w := false } (fun e s => some (e, s)) = some (xL5_44_0 x0 x1 x2 x3 x4 x5 x6 x7 x8 x9 A B C D E F G I J K L M N O P Q r) := by
 rw [bL5_44_0]
 unfold L5_44_0
 refine cond_go ?_ ?_
 refine cond_go ?_ ?_
 refine cond_go ?_ ?_
 refine cond_go ?_ ?_
 intro h; cases h; rfl
 refine cond_go ?_ ?_
 intro h; cases h; rfl
 refine cond_go ?_ ?_
 intro h; cases h; rfl
 refine cond_go ?_ ?_
 refine cond_go ?_ ?_
 refine cond_go ?_ ?_
 intro h; cases h; rfl
 intro h; cases h
 intro h; cases h
 intro h; cases h; rfl
 intro h; cases h; rfl
 refine cond_go ?_ ?_
 refine cond_go ?_ ?_
 refine cond_go ?_ ?_
 intro h; cases h; rfl
 refine cond_go ?_ ?_
 intro h; cases h; rfl
 refine cond_go ?_ ?_
 intro h; cases h; rfl
 refine cond_go ?_ ?_
 refine cond_go ?_ ?_
 refine cond_go ?_ ?_
 intro h; cases h; rfl
 intro h; cases h
 intro h; cases h
 intro h; cases h; rfl
 intro h; cases h; rfl
 refine cond_go ?_ ?_
 intro h; cases h; rfl
 intro h; cases h
 intro h; cases h
noncomputable def sL5_44_0 : TellS := fun S => dCS 0 S fun y1 y2 y3 => dSI 1 .i64 y1 fun x0 l4 => dSt 2 l4 fun y6 l5 => dL 2 0 y6 <| dSs 5 l5 fun y8 l7 => dBool y8 fun x1 => dSt 6 l7 fun y10 l9 => dL 6 0 y10 <| dE l9 <| dLo 2 y2 fun y11 l12 => dCI .i64 y11 fun x2 l13 => dCI .i64 l13 fun x3 l14 => dCI .i64 l14 fun x4 l15 => dCI .i64 l15 fun x5 l16 => dCI .i64 l16 fun x6 l17 => dC l17 fun y18 l19 => dD 51 (.list 55 QDy) y18 fun x7 => dCI .i64 l19 fun x8 l20 => dCI .i64 l20 fun x9 l21 => dCI .i64 l21 fun A l22 => dCI .i64 l22 fun B l23 => dCI .i64 l23 fun C l24 => dCI .i64 l24 fun D l25 => dCI .i64 l25 fun E l26 => dCI .i64 l26 fun F l27 => dCI .u64 l27 fun G l28 => dE l28 <| dLo 6 l12 fun y29 l30 => dCI .i64 y29 fun I l31 => dCI .i64 l31 fun J l32 => dCI .i64 l32 fun K l33 => dCI .i64 l33 fun L l34 => dCI .i64 l34 fun M l35 => dCI .i64 l35 fun N l36 => dC l36 fun y37 l38 => dBool y37 fun O => dC l38 fun y39 l40 => dBool y39 fun P => dCI .i64 l40 fun Q l41 => dE l41 <| dE l30 <| dE y3 <|  some [(ok (L5_44_0 x0 x1 x2 x3 x4 x5 x6 x7 x8 x9 A B C D E F G I J K L M N O P Q), .ret, { sl := [(4, .v (.sc (.bool ((val (L5_44_0 x0 x1 x2 x3 x4 x5 x6 x7 x8 x9 A B C D E F G I J K L M N O P Q))))))], lo := [], h := [], n0 := 0, w := true })]
theorem wL5_44_0 : NewTell Try.prog dOk base o45 t45 ((5, 44), sL5_44_0) := by
 refine ⟨(codeAt Try.prog (tn0 5) 5 44), 0, by kernel_rfl, ?_⟩
 intro S alts e S' h10 h2
 have h1 : sL5_44_0 S = some alts := h10
 clear h10
 unfold sL5_44_0 at h1
 replace h1 := dCS_some h1; obtain ⟨_, _, _, rfl, h1⟩ := h1
 replace h1 := dSI_some h1; obtain ⟨_, _, rfl, h1⟩ := h1
 replace h1 := dSt_some h1; obtain ⟨_, _, rfl, h1⟩ := h1
 replace h1 := dL_some h1; obtain ⟨rfl, h1⟩ := h1
 replace h1 := dSs_some h1; obtain ⟨_, _, rfl, h1⟩ := h1
 replace h1 := dBool_some h1; obtain ⟨_, rfl, h1⟩ := h1
 replace h1 := dSt_some h1; obtain ⟨_, _, rfl, h1⟩ := h1
 replace h1 := dL_some h1; obtain ⟨rfl, h1⟩ := h1
 replace h1 := dE_some h1; obtain ⟨rfl, h1⟩ := h1
 replace h1 := dLo_some h1; obtain ⟨_, _, rfl, h1⟩ := h1
 replace h1 := dCI_some h1; obtain ⟨_, _, rfl, h1⟩ := h1
 replace h1 := dCI_some h1; obtain ⟨_, _, rfl, h1⟩ := h1
 replace h1 := dCI_some h1; obtain ⟨_, _, rfl, h1⟩ := h1
 replace h1 := dCI_some h1; obtain ⟨_, _, rfl, h1⟩ := h1
 replace h1 := dCI_some h1; obtain ⟨_, _, rfl, h1⟩ := h1
 replace h1 := dC_some h1; obtain ⟨_, _, rfl, h1⟩ := h1
 replace h1 := dD_some h1; obtain ⟨_, rfl, h1⟩ := h1
 replace h1 := dCI_some h1; obtain ⟨_, _, rfl, h1⟩ := h1
 replace h1 := dCI_some h1; obtain ⟨_, _, rfl, h1⟩ := h1
 replace h1 := dCI_some h1; obtain ⟨_, _, rfl, h1⟩ := h1
 replace h1 := dCI_some h1; obtain ⟨_, _, rfl, h1⟩ := h1
 replace h1 := dCI_some h1; obtain ⟨_, _, rfl, h1⟩ := h1
 replace h1 := dCI_some h1; obtain ⟨_, _, rfl, h1⟩ := h1
 replace h1 := dCI_some h1; obtain ⟨_, _, rfl, h1⟩ := h1
 replace h1 := dCI_some h1; obtain ⟨_, _, rfl, h1⟩ := h1
 replace h1 := dCI_some h1; obtain ⟨_, _, rfl, h1⟩ := h1
 replace h1 := dE_some h1; obtain ⟨rfl, h1⟩ := h1
 replace h1 := dLo_some h1; obtain ⟨_, _, rfl, h1⟩ := h1
 replace h1 := dCI_some h1; obtain ⟨_, _, rfl, h1⟩ := h1
 replace h1 := dCI_some h1; obtain ⟨_, _, rfl, h1⟩ := h1
 replace h1 := dCI_some h1; obtain ⟨_, _, rfl, h1⟩ := h1
 replace h1 := dCI_some h1; obtain ⟨_, _, rfl, h1⟩ := h1
 replace h1 := dCI_some h1; obtain ⟨_, _, rfl, h1⟩ := h1
 replace h1 := dCI_some h1; obtain ⟨_, _, rfl, h1⟩ := h1
 replace h1 := dC_some h1; obtain ⟨_, _, rfl, h1⟩ := h1
 replace h1 := dBool_some h1; obtain ⟨_, rfl, h1⟩ := h1
 replace h1 := dC_some h1; obtain ⟨_, _, rfl, h1⟩ := h1
 replace h1 := dBool_some h1; obtain ⟨_, rfl, h1⟩ := h1
 replace h1 := dCI_some h1; obtain ⟨_, _, rfl, h1⟩ := h1
 replace h1 := dE_some h1; obtain ⟨rfl, h1⟩ := h1
 replace h1 := dE_some h1; obtain ⟨rfl, h1⟩ := h1
 replace h1 := dE_some h1; obtain ⟨rfl, h1⟩ := h1
 cases h1
 obtain ⟨hc0, rfl, rfl⟩ := pick_one h2
 exact ⟨0 + 40, (evPiece_code rfl).trans (lL5_44_0 0 _ _ _ _ _ _ _ _ _ _ _ _ _ _ _ _ _ _ _ _ _ _ _ _ _ _ _ (ok_val hc0))⟩
noncomputable def o46 : OrcT := o45
noncomputable def t46 : TellT := ((5, 44), sL5_44_0) :: t45
noncomputable abbrev tn46 : FuncId → TAn := mkTn base o46 t46
theorem ok46 : TnOk Try.prog tn46 (mkA base) dOk := by
 have h0 : TnOk Try.prog (mkTn base o45 t45) (mkA base) dOk := ok45
 have h1 := tn_tell h0 h0 (p := ((5, 44), sL5_44_0)) wL5_44_0
 exact h1
noncomputable def v5 (x0 x1 x2 x3 x4 : Int) (x5 : (List (List (PKt × Int)))) (x6 x7 x8 x9 A B C D E F : Int) : Option Bool := (cond (ok (v11 x0 x1 x2 x3 x4 x5 x6 x7 x8 x9 A B C D E)) (cond (!val (v11 x0 x1 x2 x3 x4 x5 x6 x7 x8 x9 A B C D E)) (some (true)) (cond (ok (v19 x0 x1 x2 x3 x4 x5 x6 x7 x8 x9 A B C D E)) (cond (!val (v19 x0 x1 x2 x3 x4 x5 x6 x7 x8 x9 A B C D E)) (some (true)) (cond (decide (0 < (↑(List.length x5) : Int))) (cond ((↑(List.length (List.getD x5 (Int.toNat 0) [])) : Int) == 0) (some (true)) (cond (decide (0 < (↑(List.length (List.getD x5 (Int.toNat 0) [])) : Int))) (cond (ok (L5_44_0 F (val v10) x0 x1 x2 x3 x4 x5 x6 x7 x8 x9 A B C D E (Prod.fst (Prod.fst (List.getD (List.getD x5 (Int.toNat 0) []) (Int.toNat 0) (PKz, (0 : Int))))) (Prod.fst (Prod.snd (Prod.fst (List.getD (List.getD x5 (Int.toNat 0) []) (Int.toNat 0) (PKz, (0 : Int)))))) (Prod.fst (Prod.snd (Prod.snd (Prod.fst (List.getD (List.getD x5 (Int.toNat 0) []) (Int.toNat 0) (PKz, (0 : Int))))))) (Prod.fst (Prod.snd (Prod.snd (Prod.snd (Prod.fst (List.getD (List.getD x5 (Int.toNat 0) []) (Int.toNat 0) (PKz, (0 : Int)))))))) (Prod.fst (Prod.snd (Prod.snd (Prod.snd (Prod.snd (Prod.fst (List.getD (List.getD x5 (Int.toNat 0) []) (Int.toNat 0) (PKz, (0 : Int))))))))) (Prod.fst (Prod.snd (Prod.snd (Prod.snd (Prod.snd (Prod.snd (Prod.fst (List.getD (List.getD x5 (Int.toNat 0) []) (Int.toNat 0) (PKz, (0 : Int)))))))))) (Prod.fst (Prod.snd (Prod.snd (Prod.snd (Prod.snd (Prod.snd (Prod.snd (Prod.fst (List.getD (List.getD x5 (Int.toNat 0) []) (Int.toNat 0) (PKz, (0 : Int))))))))))) (Prod.snd (Prod.snd (Prod.snd (Prod.snd (Prod.snd (Prod.snd (Prod.snd (Prod.fst (List.getD (List.getD x5 (Int.toNat 0) []) (Int.toNat 0) (PKz, (0 : Int))))))))))) (Prod.snd (List.getD (List.getD x5 (Int.toNat 0) []) (Int.toNat 0) (PKz, (0 : Int)))))) (some (val (L5_44_0 F (val v10) x0 x1 x2 x3 x4 x5 x6 x7 x8 x9 A B C D E (Prod.fst (Prod.fst (List.getD (List.getD x5 (Int.toNat 0) []) (Int.toNat 0) (PKz, (0 : Int))))) (Prod.fst (Prod.snd (Prod.fst (List.getD (List.getD x5 (Int.toNat 0) []) (Int.toNat 0) (PKz, (0 : Int)))))) (Prod.fst (Prod.snd (Prod.snd (Prod.fst (List.getD (List.getD x5 (Int.toNat 0) []) (Int.toNat 0) (PKz, (0 : Int))))))) (Prod.fst (Prod.snd (Prod.snd (Prod.snd (Prod.fst (List.getD (List.getD x5 (Int.toNat 0) []) (Int.toNat 0) (PKz, (0 : Int)))))))) (Prod.fst (Prod.snd (Prod.snd (Prod.snd (Prod.snd (Prod.fst (List.getD (List.getD x5 (Int.toNat 0) []) (Int.toNat 0) (PKz, (0 : Int))))))))) (Prod.fst (Prod.snd (Prod.snd (Prod.snd (Prod.snd (Prod.snd (Prod.fst (List.getD (List.getD x5 (Int.toNat 0) []) (Int.toNat 0) (PKz, (0 : Int)))))))))) (Prod.fst (Prod.snd (Prod.snd (Prod.snd (Prod.snd (Prod.snd (Prod.snd (Prod.fst (List.getD (List.getD x5 (Int.toNat 0) []) (Int.toNat 0) (PKz, (0 : Int))))))))))) (Prod.snd (Prod.snd (Prod.snd (Prod.snd (Prod.snd (Prod.snd (Prod.snd (Prod.fst (List.getD (List.getD x5 (Int.toNat 0) []) (Int.toNat 0) (PKz, (0 : Int))))))))))) (Prod.snd (List.getD (List.getD x5 (Int.toNat 0) []) (Int.toNat 0) (PKz, (0 : Int))))))) none) none)) none)) none)) none)
theorem ev5 (x0 x1 x2 x3 x4 : Int) (x5 : (List (List (PKt × Int)))) (x6 x7 x8 x9 A B C D E F : Int) : fnBody Try.prog (mkTn base o46 t46 5) (TM.evF Try.prog (mkTn base o46 t46) dOk 40) dOk 40 5 [.agg [I4 (x0), I4 (x1), I4 (x2), I4 (x3), I4 (x4), .d 51 (.list 55 QDy) (x5), I4 (x6), I4 (x7), I4 (x8), I4 (x9), I4 (A), I4 (B), I4 (C), I4 (D), .int .u64 (E)], .sc (I4 (F))] [] = (v5 x0 x1 x2 x3 x4 x5 x6 x7 x8 x9 A B C D E F).bind fun r => some ([.sc (.bool (r))], []) := by
 refine Eq.trans (b := (cond (ok (v11 x0 x1 x2 x3 x4 x5 x6 x7 x8 x9 A B C D E)) (cond (!val (v11 x0 x1 x2 x3 x4 x5 x6 x7 x8 x9 A B C D E)) (some ([.sc (.bool (true))], [])) (cond (ok (v19 x0 x1 x2 x3 x4 x5 x6 x7 x8 x9 A B C D E)) (cond (!val (v19 x0 x1 x2 x3 x4 x5 x6 x7 x8 x9 A B C D E)) (some ([.sc (.bool (true))], [])) (cond (decide (0 < (↑(List.length x5) : Int))) (cond ((↑(List.length (List.getD x5 (Int.toNat 0) [])) : Int) == 0) (some ([.sc (.bool (true))], [])) (cond (decide (0 < (↑(List.length x5) : Int))) (cond (decide (0 < (↑(List.length (List.getD x5 (Int.toNat 0) [])) : Int))) (cond (ok (L5_44_0 F (val v10) x0 x1 x2 x3 x4 x5 x6 x7 x8 x9 A B C D E (Prod.fst (Prod.fst (List.getD (List.getD x5 (Int.toNat 0) []) (Int.toNat 0) (PKz, (0 : Int))))) (Prod.fst (Prod.snd (Prod.fst (List.getD (List.getD x5 (Int.toNat 0) []) (Int.toNat 0) (PKz, (0 : Int)))))) (Prod.fst (Prod.snd (Prod.snd (Prod.fst (List.getD (List.getD x5 (Int.toNat 0) []) (Int.toNat 0) (PKz, (0 : Int))))))) (Prod.fst (Prod.snd (Prod.snd (Prod.snd (Prod.fst (List.getD (List.getD x5 (Int.toNat 0) []) (Int.toNat 0) (PKz, (0 : Int)))))))) (Prod.fst (Prod.snd (Prod.snd (Prod.snd (Prod.snd (Prod.fst (List.getD (List.getD x5 (Int.toNat 0) []) (Int.toNat 0) (PKz, (0 : Int))))))))) (Prod.fst (Prod.snd (Prod.snd (Prod.snd (Prod.snd (Prod.snd (Prod.fst (List.getD (List.getD x5 (Int.toNat 0) []) (Int.toNat 0) (PKz, (0 : Int)))))))))) (Prod.fst (Prod.snd (Prod.snd (Prod.snd (Prod.snd (Prod.snd (Prod.snd (Prod.fst (List.getD (List.getD x5 (Int.toNat 0) []) (Int.toNat 0) (PKz, (0 : Int))))))))))) (Prod.snd (Prod.snd (Prod.snd (Prod.snd (Prod.snd (Prod.snd (Prod.snd (Prod.fst (List.getD (List.getD x5 (Int.toNat 0) []) (Int.toNat 0) (PKz, (0 : Int))))))))))) (Prod.snd (List.getD (List.getD x5 (Int.toNat 0) []) (Int.toNat 0) (PKz, (0 : Int)))))) (some ([.sc (.bool (val (L5_44_0 F (val v10) x0 x1 x2 x3 x4 x5 x6 x7 x8 x9 A B C D E (Prod.fst (Prod.fst (List.getD (List.getD x5 (Int.toNat 0) []) (Int.toNat 0) (PKz, (0 : Int))))) (Prod.fst (Prod.snd (Prod.fst (List.getD (List.getD x5 (Int.toNat 0) []) (Int.toNat 0) (PKz, (0 : Int)))))) (Prod.fst (Prod.snd (Prod.snd (Prod.fst (List.getD (List.getD x5 (Int.toNat 0) []) (Int.toNat 0) (PKz, (0 : Int))))))) (Prod.fst (Prod.snd (Prod.snd (Prod.snd (Prod.fst (List.getD (List.getD x5 (Int.toNat 0) []) (Int.toNat 0) (PKz, (0 : Int)))))))) (Prod.fst (Prod.snd (Prod.snd (Prod.snd (Prod.snd (Prod.fst (List.getD (List.getD x5 (Int.toNat 0) []) (Int.toNat 0) (PKz, (0 : Int))))))))) (Prod.fst (Prod.snd (Prod.snd (Prod.snd (Prod.snd (Prod.snd (Prod.fst (List.getD (List.getD x5 (Int.toNat 0) []) (Int.toNat 0) (PKz, (0 : Int)))))))))) (Prod.fst (Prod.snd (Prod.snd (Prod.snd (Prod.snd (Prod.snd (Prod.snd (Prod.fst (List.getD (List.getD x5 (Int.toNat 0) []) (Int.toNat 0) (PKz, (0 : Int))))))))))) (Prod.snd (Prod.snd (Prod.snd (Prod.snd (Prod.snd (Prod.snd (Prod.snd (Prod.fst (List.getD (List.getD x5 (Int.toNat 0) []) (Int.toNat 0) (PKz, (0 : Int))))))))))) (Prod.snd (List.getD (List.getD x5 (Int.toNat 0) []) (Int.toNat 0) (PKz, (0 : Int)))))))], [])) none) none) none)) none)) none)) none)) (by kernel_rfl) ?_
 unfold v5
 cases (ok (v11 x0 x1 x2 x3 x4 x5 x6 x7 x8 x9 A B C D E)) with
 | true =>
  cases (!val (v11 x0 x1 x2 x3 x4 x5 x6 x7 x8 x9 A B C D E)) with
  | true =>
   rfl
  | false =>
   cases (ok (v19 x0 x1 x2 x3 x4 x5 x6 x7 x8 x9 A B C D E)) with
   | true =>
    cases (!val (v19 x0 x1 x2 x3 x4 x5 x6 x7 x8 x9 A B C D E)) with
    | true =>
     rfl
    | false =>
     cases (decide (0 < (↑(List.length x5) : Int))) with
     | true =>
      cases ((↑(List.length (List.getD x5 (Int.toNat 0) [])) : Int) == 0) with
      | true =>
       rfl
      | false =>
       cases (decide (0 < (↑(List.length (List.getD x5 (Int.toNat 0) [])) : Int))) with
       | true =>
        cases (ok (L5_44_0 F (val v10) x0 x1 x2 x3 x4 x5 x6 x7 x8 x9 A B C D E (Prod.fst (Prod.fst (List.getD (List.getD x5 (Int.toNat 0) []) (Int.toNat 0) (PKz, (0 : Int))))) (Prod.fst (Prod.snd (Prod.fst (List.getD (List.getD x5 (Int.toNat 0) []) (Int.toNat 0) (PKz, (0 : Int)))))) (Prod.fst (Prod.snd (Prod.snd (Prod.fst (List.getD (List.getD x5 (Int.toNat 0) []) (Int.toNat 0) (PKz, (0 : Int))))))) (Prod.fst (Prod.snd (Prod.snd (Prod.snd (Prod.fst (List.getD (List.getD x5 (Int.toNat 0) []) (Int.toNat 0) (PKz, (0 : Int)))))))) (Prod.fst (Prod.snd (Prod.snd (Prod.snd (Prod.snd (Prod.fst (List.getD (List.getD x5 (Int.toNat 0) []) (Int.toNat 0) (PKz, (0 : Int))))))))) (Prod.fst (Prod.snd (Prod.snd (Prod.snd (Prod.snd (Prod.snd (Prod.fst (List.getD (List.getD x5 (Int.toNat 0) []) (Int.toNat 0) (PKz, (0 : Int)))))))))) (Prod.fst (Prod.snd (Prod.snd (Prod.snd (Prod.snd (Prod.snd (Prod.snd (Prod.fst (List.getD (List.getD x5 (Int.toNat 0) []) (Int.toNat 0) (PKz, (0 : Int))))))))))) (Prod.snd (Prod.snd (Prod.snd (Prod.snd (Prod.snd (Prod.snd (Prod.snd (Prod.fst (List.getD (List.getD x5 (Int.toNat 0) []) (Int.toNat 0) (PKz, (0 : Int))))))))))) (Prod.snd (List.getD (List.getD x5 (Int.toNat 0) []) (Int.toNat 0) (PKz, (0 : Int)))))) with
        | true =>
         rfl
        | false =>
         rfl
       | false =>
        rfl
     | false =>
      rfl
   | false =>
    rfl
 | false =>
  rfl
noncomputable def sv5 : OrcS := fun al H => dC al fun y1 l2 => dA y1 fun y3 => dCI .i64 y3 fun x0 l4 => dCI .i64 l4 fun x1 l5 => dCI .i64 l5 fun x2 l6 => dCI .i64 l6 fun x3 l7 => dCI .i64 l7 fun x4 l8 => dC l8 fun y9 l10 => dD 51 (.list 55 QDy) y9 fun x5 => dCI .i64 l10 fun x6 l11 => dCI .i64 l11 fun x7 l12 => dCI .i64 l12 fun x8 l13 => dCI .i64 l13 fun x9 l14 => dCI .i64 l14 fun A l15 => dCI .i64 l15 fun B l16 => dCI .i64 l16 fun C l17 => dCI .i64 l17 fun D l18 => dCI .u64 l18 fun E l19 => dE l19 <| dC l2 fun y20 l21 => dS y20 fun y22 => dInt .i64 y22 fun F => dE l21 <| dE H <|  some [(ok (v5 x0 x1 x2 x3 x4 x5 x6 x7 x8 x9 A B C D E F), [.sc (.bool ((val (v5 x0 x1 x2 x3 x4 x5 x6 x7 x8 x9 A B C D E F))))], [])]
theorem wv5 : NewOrc Try.prog dOk base o46 t46 (5, sv5) := by
 intro al H q hq0 rs H2 h2
 have hq : sv5 al H = some q := hq0
 clear hq0
 unfold sv5 at hq
 replace hq := dC_some hq; obtain ⟨_, _, rfl, hq⟩ := hq
 replace hq := dA_some hq; obtain ⟨_, rfl, hq⟩ := hq
 replace hq := dCI_some hq; obtain ⟨_, _, rfl, hq⟩ := hq
 replace hq := dCI_some hq; obtain ⟨_, _, rfl, hq⟩ := hq
 replace hq := dCI_some hq; obtain ⟨_, _, rfl, hq⟩ := hq
 replace hq := dCI_some hq; obtain ⟨_, _, rfl, hq⟩ := hq
 replace hq := dCI_some hq; obtain ⟨_, _, rfl, hq⟩ := hq
 replace hq := dC_some hq; obtain ⟨_, _, rfl, hq⟩ := hq
 replace hq := dD_some hq; obtain ⟨_, rfl, hq⟩ := hq
 replace hq := dCI_some hq; obtain ⟨_, _, rfl, hq⟩ := hq
 replace hq := dCI_some hq; obtain ⟨_, _, rfl, hq⟩ := hq
 replace hq := dCI_some hq; obtain ⟨_, _, rfl, hq⟩ := hq
 replace hq := dCI_some hq; obtain ⟨_, _, rfl, hq⟩ := hq
 replace hq := dCI_some hq; obtain ⟨_, _, rfl, hq⟩ := hq
 replace hq := dCI_some hq; obtain ⟨_, _, rfl, hq⟩ := hq
 replace hq := dCI_some hq; obtain ⟨_, _, rfl, hq⟩ := hq
 replace hq := dCI_some hq; obtain ⟨_, _, rfl, hq⟩ := hq
 replace hq := dCI_some hq; obtain ⟨_, _, rfl, hq⟩ := hq
 replace hq := dE_some hq; obtain ⟨rfl, hq⟩ := hq
 replace hq := dC_some hq; obtain ⟨_, _, rfl, hq⟩ := hq
 replace hq := dS_some hq; obtain ⟨_, rfl, hq⟩ := hq
 replace hq := dInt_some hq; obtain ⟨_, rfl, hq⟩ := hq
 replace hq := dE_some hq; obtain ⟨rfl, hq⟩ := hq
 replace hq := dE_some hq; obtain ⟨rfl, hq⟩ := hq
 cases hq
 obtain ⟨hc0, rfl, rfl⟩ := pickR_one h2
 exact ⟨41, (fn_eq (by kernel_rfl)).trans ((ev5 _ _ _ _ _ _ _ _ _ _ _ _ _ _ _ _).trans (bind_of (ok_val hc0)))⟩
noncomputable def o47 : OrcT := (5, sv5) :: o46
noncomputable def t47 : TellT := t46
noncomputable abbrev tn47 : FuncId → TAn := mkTn base o47 t47
theorem ok47 : TnOk Try.prog tn47 (mkA base) dOk := by
 have h0 : TnOk Try.prog (mkTn base o46 t46) (mkA base) dOk := ok46
 have h1 := tn_orc h0 h0 (p := (5, sv5)) wv5
 exact h1
end Go.Proofs.Ythbinbcgjhnijaa
