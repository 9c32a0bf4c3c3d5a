/- What some functions and loops come to: printed and checked. Written by a program of ours. -/
import Derived.Test.YthbinbcgjhnijaaG2
set_option linter.all false
set_option linter.constructorNameAsVariable false
set_option linter.unnecessarySimpa false
set_option linter.unusedSimpArgs false
set_option linter.unusedVariables false
set_option maxRecDepth 1000000
set_option linter.unusedVariables false
set_option maxHeartbeats 4000000
namespace Go.Proofs.Ythbinbcgjhnijaa
open Go Go.AM Go.TM Go.Proofs
noncomputable def L43_0_0 : Nat → (List (PKt × Int)) → Int → Int → Option (Bool ⊕ Unit)
 | 0, _, _, _ => none
 | n + 1, x0, x1, x2 => (cond (decide (x2 < (↑(List.length x0) : Int))) (cond (decide (0 ≤ x2)) (cond (ok (v27 (List.getD x0 x2.toNat (PKz, (0 : Int))).1.1 (List.getD x0 x2.toNat (PKz, (0 : Int))).1.2.1 (List.getD x0 x2.toNat (PKz, (0 : Int))).1.2.2.1 (List.getD x0 x2.toNat (PKz, (0 : Int))).1.2.2.2.1 (List.getD x0 x2.toNat (PKz, (0 : Int))).1.2.2.2.2.1 (List.getD x0 x2.toNat (PKz, (0 : Int))).1.2.2.2.2.2.1 (List.getD x0 x2.toNat (PKz, (0 : Int))).1.2.2.2.2.2.2.1 (List.getD x0 x2.toNat (PKz, (0 : Int))).1.2.2.2.2.2.2.2)) (cond (!val (v27 (List.getD x0 x2.toNat (PKz, (0 : Int))).1.1 (List.getD x0 x2.toNat (PKz, (0 : Int))).1.2.1 (List.getD x0 x2.toNat (PKz, (0 : Int))).1.2.2.1 (List.getD x0 x2.toNat (PKz, (0 : Int))).1.2.2.2.1 (List.getD x0 x2.toNat (PKz, (0 : Int))).1.2.2.2.2.1 (List.getD x0 x2.toNat (PKz, (0 : Int))).1.2.2.2.2.2.1 (List.getD x0 x2.toNat (PKz, (0 : Int))).1.2.2.2.2.2.2.1 (List.getD x0 x2.toNat (PKz, (0 : Int))).1.2.2.2.2.2.2.2)) (some (.inl (false))) (cond (ok (v26 (List.getD x0 x2.toNat (PKz, (0 : Int))).2)) (cond (!val (v26 (List.getD x0 x2.toNat (PKz, (0 : Int))).2)) (some (.inl (false))) (cond (decide ((List.getD x0 x2.toNat (PKz, (0 : Int))).2 > x1)) (some (.inl (false))) (cond (decide (x2 > 0)) (cond (decide (0 ≤ IntKind.wrap IntKind.i64 (x2 - (1 : Int)))) (cond (decide (IntKind.wrap IntKind.i64 (x2 - (1 : Int)) < (↑(List.length x0) : Int))) (cond (decide ((List.getD x0 x2.toNat (PKz, (0 : Int))).2 < (List.getD x0 (IntKind.wrap IntKind.i64 (x2 - (1 : Int))).toNat (PKz, (0 : Int))).2)) (some (.inl (false))) (L43_0_0 n (x0) (x1) (IntKind.wrap IntKind.i64 (x2 + (1 : Int))))) none) none) (L43_0_0 n (x0) (x1) (IntKind.wrap IntKind.i64 (x2 + (1 : Int))))))) none)) none) none) (some (.inr ())))
theorem qL43_0_0 : type_of% @L43_0_0.eq_2 := @L43_0_0.eq_2
noncomputable def xL43_0_0 (x0 : (List (PKt × Int))) (x1 x2 : Int) : (Bool ⊕ Unit) → Ex × CS := fun r => match r with | .inl a0 => (.ret, { sl := [(4, .v (.sc (.bool (a0))))], lo := [], h := [], n0 := 0, w := true }) | .inr b0 => ((.exit 0), { sl := [], lo := [], h := [], n0 := 0, w := false })
theorem bL43_0_0 (k : Nat) (cN : CS → Option (Ex × CS)) (cX : Ex → CS → Option (Ex × CS)) (x0 : (List (PKt × Int))) (x1 x2 : Int) : loopBody Try.prog (mkTn base o34 t34 43) (TM.evF Try.prog (mkTn base o34 t34) dOk (k + 40)) dOk (k + 40) (codeAt Try.prog (tn0 43) 43 0) 0 0 { sl := [(0, .v (.sc (.d 55 QDy (x0)))), (1, .v (.sc (I4 (x1)))), (5, .v (.sc (I4 (x2))))], lo := [], h := [], n0 := 0, w := false } cN cX = (cond (decide (x2 < (↑(List.length x0) : Int))) (cond (decide (0 ≤ x2)) (cond (decide (x2 < (↑(List.length x0) : Int))) (cond (ok (v27 (List.getD x0 x2.toNat (PKz, (0 : Int))).1.1 (List.getD x0 x2.toNat (PKz, (0 : Int))).1.2.1 (List.getD x0 x2.toNat (PKz, (0 : Int))).1.2.2.1 (List.getD x0 x2.toNat (PKz, (0 : Int))).1.2.2.2.1 (List.getD x0 x2.toNat (PKz, (0 : Int))).1.2.2.2.2.1 (List.getD x0 x2.toNat (PKz, (0 : Int))).1.2.2.2.2.2.1 (List.getD x0 x2.toNat (PKz, (0 : Int))).1.2.2.2.2.2.2.1 (List.getD x0 x2.toNat (PKz, (0 : Int))).1.2.2.2.2.2.2.2)) (cond (!val (v27 (List.getD x0 x2.toNat (PKz, (0 : Int))).1.1 (List.getD x0 x2.toNat (PKz, (0 : Int))).1.2.1 (List.getD x0 x2.toNat (PKz, (0 : Int))).1.2.2.1 (List.getD x0 x2.toNat (PKz, (0 : Int))).1.2.2.2.1 (List.getD x0 x2.toNat (PKz, (0 : Int))).1.2.2.2.2.1 (List.getD x0 x2.toNat (PKz, (0 : Int))).1.2.2.2.2.2.1 (List.getD x0 x2.toNat (PKz, (0 : Int))).1.2.2.2.2.2.2.1 (List.getD x0 x2.toNat (PKz, (0 : Int))).1.2.2.2.2.2.2.2)) (cX .ret { sl := [(4, .v (.sc (.bool (false))))], lo := [], h := [], n0 := 0, w := true }) (cond (decide (0 ≤ x2)) (cond (decide (x2 < (↑(List.length x0) : Int))) (cond (ok (v26 (List.getD x0 x2.toNat (PKz, (0 : Int))).2)) (cond (!val (v26 (List.getD x0 x2.toNat (PKz, (0 : Int))).2)) (cX .ret { sl := [(4, .v (.sc (.bool (false))))], lo := [], h := [], n0 := 0, w := true }) (cond (decide (0 ≤ x2)) (cond (decide (x2 < (↑(List.length x0) : Int))) (cond (decide ((List.getD x0 x2.toNat (PKz, (0 : Int))).2 > x1)) (cX .ret { sl := [(4, .v (.sc (.bool (false))))], lo := [], h := [], n0 := 0, w := true }) (cond (decide (x2 > 0)) (cond (decide (0 ≤ x2)) (cond (decide (x2 < (↑(List.length x0) : Int))) (cond (decide (0 ≤ IntKind.wrap IntKind.i64 (x2 - (1 : Int)))) (cond (decide (IntKind.wrap IntKind.i64 (x2 - (1 : Int)) < (↑(List.length x0) : Int))) (cond (decide ((List.getD x0 x2.toNat (PKz, (0 : Int))).2 < (List.getD x0 (IntKind.wrap IntKind.i64 (x2 - (1 : Int))).toNat (PKz, (0 : Int))).2)) (cX .ret { sl := [(4, .v (.sc (.bool (false))))], lo := [], h := [], n0 := 0, w := true }) (cN { sl := [(0, .v (.sc (.d 55 QDy (x0)))), (1, .v (.sc (I4 (x1)))), (5, .v (.sc (I4 (IntKind.wrap IntKind.i64 (x2 + (1 : Int))))))], lo := [], h := [], n0 := 0, w := false })) none) none) none) none) (cN { sl := [(0, .v (.sc (.d 55 QDy (x0)))), (1, .v (.sc (I4 (x1)))), (5, .v (.sc (I4 (IntKind.wrap IntKind.i64 (x2 + (1 : Int))))))], lo := [], h := [], n0 := 0, w := false }))) none) none)) none) none) none)) none) none) none) (cX (.exit 0) { sl := [], lo := [], h := [], n0 := 0, w := false })) := by kernel_rfl
theorem lL43_0_0 (k m : Nat) : ∀ (n : Nat) (x0 : (List (PKt × Int))) (x1 x2 : Int) (r : (Bool ⊕ Unit)), L43_0_0 n x0 x1 x2 = some r → loopE Try.prog (mkTn base o34 t34 43) (TM.evF Try.prog (mkTn base o34 t34) dOk (k + 40)) dOk (k + 40) (codeAt Try.prog (tn0 43) 43 0) 0 0 (n + m) { sl := [(0, .v (.sc (.d 55 QDy (x0)))), (1, .v (.sc (I4 (x1)))), (5, .v (.sc (I4 (x2))))], lo := [], h := [], n0 := 0, w := false } = some (xL43_0_0 x0 x1 x2 r) := by
 intro n
 induction n with
 | zero => intro _ _ _ r h; cases h
 | succ n ih =>
  intro x0 x1 x2 r
  rw [show n + 1 + m = n + m + 1 by omega, loop_step, bL43_0_0, qL43_0_0]
  cases (decide (x2 < (↑(List.length x0) : Int))) with
  | true =>
   cases (decide (0 ≤ x2)) with
   | true =>
    cases (ok (v27 (List.getD x0 x2.toNat (PKz, (0 : Int))).1.1 (List.getD x0 x2.toNat (PKz, (0 : Int))).1.2.1 (List.getD x0 x2.toNat (PKz, (0 : Int))).1.2.2.1 (List.getD x0 x2.toNat (PKz, (0 : Int))).1.2.2.2.1 (List.getD x0 x2.toNat (PKz, (0 : Int))).1.2.2.2.2.1 (List.getD x0 x2.toNat (PKz, (0 : Int))).1.2.2.2.2.2.1 (List.getD x0 x2.toNat (PKz, (0 : Int))).1.2.2.2.2.2.2.1 (List.getD x0 x2.toNat (PKz, (0 : Int))).1.2.2.2.2.2.2.2)) with
    | true =>
     cases (!val (v27 (List.getD x0 x2.toNat (PKz, (0 : Int))).1.1 (List.getD x0 x2.toNat (PKz, (0 : Int))).1.2.1 (List.getD x0 x2.toNat (PKz, (0 : Int))).1.2.2.1 (List.getD x0 x2.toNat (PKz, (0 : Int))).1.2.2.2.1 (List.getD x0 x2.toNat (PKz, (0 : Int))).1.2.2.2.2.1 (List.getD x0 x2.toNat (PKz, (0 : Int))).1.2.2.2.2.2.1 (List.getD x0 x2.toNat (PKz, (0 : Int))).1.2.2.2.2.2.2.1 (List.getD x0 x2.toNat (PKz, (0 : Int))).1.2.2.2.2.2.2.2)) with
     | true =>
      intro h; cases h; rfl
     | false =>
      cases (ok (v26 (List.getD x0 x2.toNat (PKz, (0 : Int))).2)) with
      | true =>
       cases (!val (v26 (List.getD x0 x2.toNat (PKz, (0 : Int))).2)) with
       | true =>
        intro h; cases h; rfl
       | false =>
        cases (decide ((List.getD x0 x2.toNat (PKz, (0 : Int))).2 > x1)) with
        | true =>
         intro h; cases h; rfl
        | false =>
         cases (decide (x2 > 0)) with
         | true =>
          cases (decide (0 ≤ IntKind.wrap IntKind.i64 (x2 - (1 : Int)))) with
          | true =>
           cases (decide (IntKind.wrap IntKind.i64 (x2 - (1 : Int)) < (↑(List.length x0) : Int))) with
           | true =>
            cases (decide ((List.getD x0 x2.toNat (PKz, (0 : Int))).2 < (List.getD x0 (IntKind.wrap IntKind.i64 (x2 - (1 : Int))).toNat (PKz, (0 : Int))).2)) with
            | true =>
             intro h; cases h; rfl
            | false =>
             exact ih _ _ _ r
           | false =>
            intro h; cases h
          | false =>
           intro h; cases h
         | false =>
          exact ih _ _ _ r
      | false =>
       intro h; cases h
    | false =>
     intro h; cases h
   | false =>
    intro h; cases h
  | false =>
   intro h; cases h; rfl
noncomputable def sL43_0_0 : TellS := fun S => dCS 0 S fun y1 y2 y3 => dSs 0 y1 fun y5 l4 => dD 55 QDy y5 fun x0 => dSI 1 .i64 l4 fun x1 l6 => dSI 5 .i64 l6 fun x2 l7 => dE l7 <| dE y2 <| dE y3 <|  some [(isL (L43_0_0 FU x0 x1 x2), .ret, { sl := [(4, .v (.sc (.bool ((getL (L43_0_0 FU x0 x1 x2))))))], lo := [], h := [], n0 := 0, w := true }), (ok (getR (L43_0_0 FU x0 x1 x2)), (.exit 0), { sl := [], lo := [], h := [], n0 := 0, w := false })]
theorem wL43_0_0 : NewTell Try.prog dOk base o34 t34 ((43, 0), sL43_0_0) := by
 refine ⟨.loop (codeAt Try.prog (tn0 43) 43 0), 0, by kernel_rfl, ?_⟩
 intro S alts e S' h10 h2
 have h1 : sL43_0_0 S = some alts := h10
 clear h10
 unfold sL43_0_0 at h1
 obtain ⟨_, _, _, rfl, g1⟩ := dCS_some h1
 obtain ⟨_, _, rfl, g2⟩ := dSs_some g1
 obtain ⟨_, rfl, g3⟩ := dD_some g2
 obtain ⟨_, _, rfl, g4⟩ := dSI_some g3
 obtain ⟨_, _, rfl, g5⟩ := dSI_some g4
 obtain ⟨rfl, g6⟩ := dE_some g5
 obtain ⟨rfl, g7⟩ := dE_some g6
 obtain ⟨rfl, g8⟩ := dE_some g7
 cases g8
 rcases pick_cons h2 with ⟨hc0, rfl, rfl⟩ | h2
 · exact ⟨FU + 40, (evPiece_loop rfl).trans (lL43_0_0 FU 40 FU _ _ _ _ (isL_val hc0))⟩
 obtain ⟨hc1, rfl, rfl⟩ := pick_one h2
 exact ⟨FU + 40, (evPiece_loop rfl).trans (lL43_0_0 FU 40 FU _ _ _ _ (getR_val (ok_val hc1)))⟩
noncomputable def o35 : OrcT := o34
noncomputable def t35 : TellT := ((43, 0), sL43_0_0) :: t34
noncomputable abbrev tn35 : FuncId → TAn := mkTn base o35 t35
theorem ok35 : TnOk Try.prog tn35 (mkA base) dOk := by
 have h0 : TnOk Try.prog (mkTn base o34 t34) (mkA base) dOk := ok34
 have h1 := tn_tell h0 h0 (p := ((43, 0), sL43_0_0)) wL43_0_0
 exact h1
noncomputable def v43 (x0 : (List (PKt × Int))) (x1 : Int) : Option Bool := (cond (isL (L43_0_0 FU x0 x1 0)) (some (getL (L43_0_0 FU x0 x1 0))) (cond (ok (getR (L43_0_0 FU x0 x1 0))) (some (true)) none))
theorem ev43 (x0 : (List (PKt × Int))) (x1 : Int) : fnBody Try.prog (mkTn base o35 t35 43) (TM.evF Try.prog (mkTn base o35 t35) dOk 40) dOk 40 43 [.sc (.d 55 QDy (x0)), .sc (I4 (x1))] [] = (v43 x0 x1).bind fun r => some ([.sc (.bool (r))], []) := by
 refine Eq.trans (b := (cond (isL (L43_0_0 FU x0 x1 0)) (some ([.sc (.bool (getL (L43_0_0 FU x0 x1 0)))], [])) (cond (ok (getR (L43_0_0 FU x0 x1 0))) (some ([.sc (.bool (true))], [])) none))) (by kernel_rfl) ?_
 unfold v43
 refine cond_bd ?_ ?_
 rfl
 refine cond_bd ?_ ?_
 rfl
 rfl
noncomputable def sv43 : OrcS := fun al H => dC al fun y1 l2 => dS y1 fun y3 => dD 55 QDy y3 fun x0 => dC l2 fun y4 l5 => dS y4 fun y6 => dInt .i64 y6 fun x1 => dE l5 <| dE H <|  some [(ok (v43 x0 x1), [.sc (.bool ((val (v43 x0 x1))))], [])]
theorem wv43 : NewOrc Try.prog dOk base o35 t35 (43, sv43) := by
 intro al H q hq0 rs H2 h2
 have hq : sv43 al H = some q := hq0
 clear hq0
 unfold sv43 at hq
 obtain ⟨_, _, rfl, g1⟩ := dC_some hq
 obtain ⟨_, rfl, g2⟩ := dS_some g1
 obtain ⟨_, rfl, g3⟩ := dD_some g2
 obtain ⟨_, _, rfl, g4⟩ := dC_some g3
 obtain ⟨_, rfl, g5⟩ := dS_some g4
 obtain ⟨_, rfl, g6⟩ := dInt_some g5
 obtain ⟨rfl, g7⟩ := dE_some g6
 obtain ⟨rfl, g8⟩ := dE_some g7
 cases g8
 obtain ⟨hc0, rfl, rfl⟩ := pickR_one h2
 exact ⟨41, (fn_eq (by kernel_rfl)).trans ((ev43 _ _).trans (bind_of (ok_val hc0)))⟩
noncomputable def o36 : OrcT := (43, sv43) :: o35
noncomputable def t36 : TellT := t35
noncomputable abbrev tn36 : FuncId → TAn := mkTn base o36 t36
theorem ok36 : TnOk Try.prog tn36 (mkA base) dOk := by
 have h0 : TnOk Try.prog (mkTn base o35 t35) (mkA base) dOk := ok35
 have h1 := tn_orc h0 h0 (p := (43, sv43)) wv43
 exact h1
noncomputable def L19_92_0 (x0 x1 x2 x3 x4 : Int) (x5 : (List (List (PKt × Int)))) (x6 x7 x8 x9 A B C D E : Int) : Option Bool := (cond (decide (0 < (↑(List.length x5) : Int))) (cond (decide ((↑(List.length (List.getD x5 (Int.toNat 0) [])) : Int) ≤ x4)) (cond (ok (v43 (List.getD x5 (Int.toNat 0) []) D)) (some (val (v43 (List.getD x5 (Int.toNat 0) []) D))) none) (some (false))) none)
noncomputable def xL19_92_0 (x0 x1 x2 x3 x4 : Int) (x5 : (List (List (PKt × Int)))) (x6 x7 x8 x9 A B C D E : Int) : Bool → Ex × CS := fun r => (.ret, { sl := [(2, .v (.sc (.bool (r))))], lo := [], h := [], n0 := 0, w := true })
theorem bL19_92_0 (k : Nat) (cX : Ex → CS → Option (Ex × CS)) (x0 x1 x2 x3 x4 : Int) (x5 : (List (List (PKt × Int)))) (x6 x7 x8 x9 A B C D E : Int) : pieceBody Try.prog (mkTn base o36 t36 19) (TM.evF Try.prog (mkTn base o36 t36) dOk (k + 40)) dOk (k + 40) (codeAt Try.prog (tn0 19) 19 92) 0 92 { sl := [(1, .l 1 0)], lo := [(1, [I4 (x0), I4 (x1), I4 (x2), I4 (x3), I4 (x4), .d 51 (.list 55 QDy) (x5), I4 (x6), I4 (x7), I4 (x8), I4 (x9), I4 (A), I4 (B), I4 (C), I4 (D), .int .u64 (E)])], h := [], n0 := 0, w := false } cX = (cond (decide (0 < (↑(List.length x5) : Int))) (cond (decide ((↑(List.length (List.getD x5 (Int.toNat 0) [])) : Int) ≤ x4)) (cond (decide (0 < (↑(List.length x5) : Int))) (cond (ok (v43 (List.getD x5 (Int.toNat 0) []) D)) (cX .ret { sl := [(2, .v (.sc (.bool (val (v43 (List.getD x5 (Int.toNat 0) []) D)))))], lo := [], h := [], n0 := 0, w := true }) none) none) (cX .ret { sl := [(2, .v (.sc (.bool (false))))], lo := [], h := [], n0 := 0, w := true })) none) := by kernel_rfl
theorem lL19_92_0 (k : Nat) (x0 x1 x2 x3 x4 : Int) (x5 : (List (List (PKt × Int)))) (x6 x7 x8 x9 A B C D E : Int) (r : Bool) : L19_92_0 x0 x1 x2 x3 x4 x5 x6 x7 x8 x9 A B C D E = some r → pieceBody Try.prog (mkTn base o36 t36 19) (TM.evF Try.prog (mkTn base o36 t36) dOk (k + 40)) dOk (k + 40) (codeAt Try.prog (tn0 19) 19 92) 0 92 { sl := [(1, .l 1 0)], lo := [(1, [I4 (x0), I4 (x1), I4 (x2), I4 (x3), I4 (x4), .d 51 (.list 55 QDy) (x5), I4 (x6), I4 (x7), I4 (x8), I4 (x9), I4 (A), I4 (B), I4 (C), I4 (D), .int .u64 (E)])], h := [], n0 := 0, w := false } (fun e s => some (e, s)) = some (xL19_92_0 x0 x1 x2 x3 x4 x5 x6 x7 x8 x9 A B C D E r) := by
 rw [bL19_92_0]
 unfold L19_92_0
 cases (decide (0 < (↑(List.length x5) : Int))) with
 | true =>
  cases (decide ((↑(List.length (List.getD x5 (Int.toNat 0) [])) : Int) ≤ x4)) with
  | true =>
   cases (ok (v43 (List.getD x5 (Int.toNat 0) []) D)) with
   | true =>
    intro h; cases h; rfl
   | false =>
    intro h; cases h
  | false =>
   intro h; cases h; rfl
 | false =>
  intro h; cases h
noncomputable def sL19_92_0 : TellS := fun S => dCS 0 S fun y1 y2 y3 => dSt 1 y1 fun y5 l4 => dL 1 0 y5 <| dE l4 <| dLo 1 y2 fun y6 l7 => dCI .i64 y6 fun x0 l8 => dCI .i64 l8 fun x1 l9 => dCI .i64 l9 fun x2 l10 => dCI .i64 l10 fun x3 l11 => dCI .i64 l11 fun x4 l12 => dC l12 fun y13 l14 => dD 51 (.list 55 QDy) y13 fun x5 => dCI .i64 l14 fun x6 l15 => dCI .i64 l15 fun x7 l16 => dCI .i64 l16 fun x8 l17 => dCI .i64 l17 fun x9 l18 => dCI .i64 l18 fun A l19 => dCI .i64 l19 fun B l20 => dCI .i64 l20 fun C l21 => dCI .i64 l21 fun D l22 => dCI .u64 l22 fun E l23 => dE l23 <| dE l7 <| dE y3 <|  some [(ok (L19_92_0 x0 x1 x2 x3 x4 x5 x6 x7 x8 x9 A B C D E), .ret, { sl := [(2, .v (.sc (.bool ((val (L19_92_0 x0 x1 x2 x3 x4 x5 x6 x7 x8 x9 A B C D E))))))], lo := [], h := [], n0 := 0, w := true })]
theorem wL19_92_0 : NewTell Try.prog dOk base o36 t36 ((19, 92), sL19_92_0) := by
 refine ⟨(codeAt Try.prog (tn0 19) 19 92), 0, by kernel_rfl, ?_⟩
 intro S alts e S' h10 h2
 have h1 : sL19_92_0 S = some alts := h10
 clear h10
 unfold sL19_92_0 at h1
 obtain ⟨_, _, _, rfl, g1⟩ := dCS_some h1
 obtain ⟨_, _, rfl, g2⟩ := dSt_some g1
 obtain ⟨rfl, g3⟩ := dL_some g2
 obtain ⟨rfl, g4⟩ := dE_some g3
 obtain ⟨_, _, rfl, g5⟩ := dLo_some g4
 obtain ⟨_, _, _, _, _, _, rfl, g6⟩ := dJ5 g5
 obtain ⟨_, _, rfl, g7⟩ := dC_some g6
 obtain ⟨_, rfl, g8⟩ := dD_some g7
 obtain ⟨_, _, _, _, _, _, _, _, _, _, rfl, g9⟩ := dJ9 g8
 obtain ⟨rfl, g10⟩ := dE_some g9
 obtain ⟨rfl, g11⟩ := dE_some g10
 obtain ⟨rfl, g12⟩ := dE_some g11
 cases g12
 obtain ⟨hc0, rfl, rfl⟩ := pick_one h2
 exact ⟨0 + 40, (evPiece_code rfl).trans (lL19_92_0 0 _ _ _ _ _ _ _ _ _ _ _ _ _ _ _ _ (ok_val hc0))⟩
noncomputable def o37 : OrcT := o36
noncomputable def t37 : TellT := ((19, 92), sL19_92_0) :: t36
noncomputable abbrev tn37 : FuncId → TAn := mkTn base o37 t37
theorem ok37 : TnOk Try.prog tn37 (mkA base) dOk := by
 have h0 : TnOk Try.prog (mkTn base o36 t36) (mkA base) dOk := ok36
 have h1 := tn_tell h0 h0 (p := ((19, 92), sL19_92_0)) wL19_92_0
 exact h1
noncomputable def L19_52_0 (x0 x1 x2 x3 x4 : Int) (x5 : (List (List (PKt × Int)))) (x6 x7 x8 x9 A B C D E : Int) : Option Bool := (cond (x8 != 0) (some (false)) (cond (x9 != 0) (some (false)) (cond (A != 0) (some (false)) (cond (B != 0) (some (false)) (cond (C != 0) (some (false)) (cond (ok (L19_92_0 x0 x1 x2 x3 x4 x5 x6 x7 x8 x9 A B C D E)) (some (val (L19_92_0 x0 x1 x2 x3 x4 x5 x6 x7 x8 x9 A B C D E))) none))))))
noncomputable def xL19_52_0 (x0 x1 x2 x3 x4 : Int) (x5 : (List (List (PKt × Int)))) (x6 x7 x8 x9 A B C D E : Int) : Bool → Ex × CS := fun r => (.ret, { sl := [(2, .v (.sc (.bool (r))))], lo := [], h := [], n0 := 0, w := true })
theorem bL19_52_0 (k : Nat) (cX : Ex → CS → Option (Ex × CS)) (x0 x1 x2 x3 x4 : Int) (x5 : (List (List (PKt × Int)))) (x6 x7 x8 x9 A B C D E : Int) : pieceBody Try.prog (mkTn base o37 t37 19) (TM.evF Try.prog (mkTn base o37 t37) dOk (k + 40)) dOk (k + 40) (codeAt Try.prog (tn0 19) 19 52) 0 52 { sl := [(1, .l 1 0), (3, .l 3 0), (5, .l 1 0), (7, .l 3 0), (11, .l 3 1), (16, .l 3 1), (21, .l 3 2), (26, .l 3 2), (31, .l 3 3), (36, .l 1 4), (41, .l 1 4), (46, .l 1 5), (52, .l 1 14), (57, .l 1 6), (58, .l 1 13), (63, .l 1 6), (64, .l 1 6), (68, .l 1 6), (69, .l 1 6), (71, .l 1 6), (72, .l 1 13), (74, .l 3 2), (81, .l 1 6), (82, .l 1 7), (87, .l 1 6), (88, .l 1 7), (93, .l 1 6), (94, .l 1 6), (98, .l 1 6), (99, .l 1 7)], lo := [(1, [I4 (x0), I4 (x1), I4 (x2), I4 (x3), I4 (x4), .d 51 (.list 55 QDy) (x5), I4 (x6), I4 (x7), I4 (x8), I4 (x9), I4 (A), I4 (B), I4 (C), I4 (D), .int .u64 (E)])], h := [], n0 := 0, w := false } cX = (cond (x8 != 0) (cX .ret { sl := [(2, .v (.sc (.bool (false))))], lo := [], h := [], n0 := 0, w := true }) (cond (x9 != 0) (cX .ret { sl := [(2, .v (.sc (.bool (false))))], lo := [], h := [], n0 := 0, w := true }) (cond (A != 0) (cX .ret { sl := [(2, .v (.sc (.bool (false))))], lo := [], h := [], n0 := 0, w := true }) (cond (B != 0) (cX .ret { sl := [(2, .v (.sc (.bool (false))))], lo := [], h := [], n0 := 0, w := true }) (cond (C != 0) (cX .ret { sl := [(2, .v (.sc (.bool (false))))], lo := [], h := [], n0 := 0, w := true }) (cond (ok (L19_92_0 x0 x1 x2 x3 x4 x5 x6 x7 x8 x9 A B C D E)) (cX .ret { sl := [(2, .v (.sc (.bool (val (L19_92_0 x0 x1 x2 x3 x4 x5 x6 x7 x8 x9 A B C D E)))))], lo := [], h := [], n0 := 0, w := true }) none)))))) := by kernel_rfl
theorem lL19_52_0 (k : Nat) (x0 x1 x2 x3 x4 : Int) (x5 : (List (List (PKt × Int)))) (x6 x7 x8 x9 A B C D E : Int) (r : Bool) : L19_52_0 x0 x1 x2 x3 x4 x5 x6 x7 x8 x9 A B C D E = some r → pieceBody Try.prog (mkTn base o37 t37 19) (TM.evF Try.prog (mkTn base o37 t37) dOk (k + 40)) dOk (k + 40) (codeAt Try.prog (tn0 19) 19 52) 0 52 { sl := [(1, .l 1 0), (3, .l 3 0), (5, .l 1 0), (7, .l 3 0), (11, .l 3 1), (16, .l 3 1), (21, .l 3 2), (26, .l 3 2), (31, .l 3 3), (36, .l 1 4), (41, .l 1 4), (46, .l 1 5), (52, .l 1 14), (57, .l 1 6), (58, .l 1 13), (63, .l 1 6), (64, .l 1 6), (68, .l 1 6), (69, .l 1 6), (71, .l 1 6), (72, .l 1 13), (74, .l 3 2), (81, .l 1 6), (82, .l 1 7), (87, .l 1 6), (88, .l 1 7), (93, .l 1 6), (94, .l 1 6), (98, .l 1 6), (99, .l 1 7)], lo := [(1, [I4 (x0), I4 (x1), I4 (x2), I4 (x3), I4 (x4), .d 51 (.list 55 QDy) (x5), I4 (x6), I4 (x7), I4 (x8), I4 (x9), I4 (A), I4 (B), I4 (C), I4 (D), .int .u64 (E)])], h := [], n0 := 0, w := false } (fun e s => some (e, s)) = some (xL19_52_0 x0 x1 x2 x3 x4 x5 x6 x7 x8 x9 A B C D E r) := by
 rw [bL19_52_0]
 unfold L19_52_0
 refine cond_go ?_ ?_
 intro h; cases h; rfl
 refine cond_go ?_ ?_
 intro h; cases h; rfl
 refine cond_go ?_ ?_
 intro h; cases h; rfl
 refine cond_go ?_ ?_
 intro h; cases h; rfl
 refine cond_go ?_ ?_
 intro h; cases h; rfl
 refine cond_go ?_ ?_
 intro h; cases h; rfl
 intro h; cases h
noncomputable def sL19_52_0 : TellS := fun S => dCS 0 S fun y1 y2 y3 => dSt 1 y1 fun y5 l4 => dL 1 0 y5 <| dSt 3 l4 fun y7 l6 => dL 3 0 y7 <| dSt 5 l6 fun y9 l8 => dL 1 0 y9 <| dSt 7 l8 fun y11 l10 => dL 3 0 y11 <| dSt 11 l10 fun y13 l12 => dL 3 1 y13 <| dSt 16 l12 fun y15 l14 => dL 3 1 y15 <| dSt 21 l14 fun y17 l16 => dL 3 2 y17 <| dSt 26 l16 fun y19 l18 => dL 3 2 y19 <| dSt 31 l18 fun y21 l20 => dL 3 3 y21 <| dSt 36 l20 fun y23 l22 => dL 1 4 y23 <| dSt 41 l22 fun y25 l24 => dL 1 4 y25 <| dSt 46 l24 fun y27 l26 => dL 1 5 y27 <| dSt 52 l26 fun y29 l28 => dL 1 14 y29 <| dSt 57 l28 fun y31 l30 => dL 1 6 y31 <| dSt 58 l30 fun y33 l32 => dL 1 13 y33 <| dSt 63 l32 fun y35 l34 => dL 1 6 y35 <| dSt 64 l34 fun y37 l36 => dL 1 6 y37 <| dSt 68 l36 fun y39 l38 => dL 1 6 y39 <| dSt 69 l38 fun y41 l40 => dL 1 6 y41 <| dSt 71 l40 fun y43 l42 => dL 1 6 y43 <| dSt 72 l42 fun y45 l44 => dL 1 13 y45 <| dSt 74 l44 fun y47 l46 => dL 3 2 y47 <| dSt 81 l46 fun y49 l48 => dL 1 6 y49 <| dSt 82 l48 fun y51 l50 => dL 1 7 y51 <| dSt 87 l50 fun y53 l52 => dL 1 6 y53 <| dSt 88 l52 fun y55 l54 => dL 1 7 y55 <| dSt 93 l54 fun y57 l56 => dL 1 6 y57 <| dSt 94 l56 fun y59 l58 => dL 1 6 y59 <| dSt 98 l58 fun y61 l60 => dL 1 6 y61 <| dSt 99 l60 fun y63 l62 => dL 1 7 y63 <| dE l62 <| dLo 1 y2 fun y64 l65 => dCI .i64 y64 fun x0 l66 => dCI .i64 l66 fun x1 l67 => dCI .i64 l67 fun x2 l68 => dCI .i64 l68 fun x3 l69 => dCI .i64 l69 fun x4 l70 => dC l70 fun y71 l72 => dD 51 (.list 55 QDy) y71 fun x5 => dCI .i64 l72 fun x6 l73 => dCI .i64 l73 fun x7 l74 => dCI .i64 l74 fun x8 l75 => dCI .i64 l75 fun x9 l76 => dCI .i64 l76 fun A l77 => dCI .i64 l77 fun B l78 => dCI .i64 l78 fun C l79 => dCI .i64 l79 fun D l80 => dCI .u64 l80 fun E l81 => dE l81 <| dE l65 <| dE y3 <|  some [(ok (L19_52_0 x0 x1 x2 x3 x4 x5 x6 x7 x8 x9 A B C D E), .ret, { sl := [(2, .v (.sc (.bool ((val (L19_52_0 x0 x1 x2 x3 x4 x5 x6 x7 x8 x9 A B C D E))))))], lo := [], h := [], n0 := 0, w := true })]
theorem wL19_52_0 : NewTell Try.prog dOk base o37 t37 ((19, 52), sL19_52_0) := by
 refine ⟨(codeAt Try.prog (tn0 19) 19 52), 0, by kernel_rfl, ?_⟩
 intro S alts e S' h10 h2
 have h1 : sL19_52_0 S = some alts := h10
 clear h10
 unfold sL19_52_0 at h1
 replace h1 := dCS_some h1; obtain ⟨_, _, _, rfl, h1⟩ := h1
 replace h1 := dSt_some h1; obtain ⟨_, _, rfl, h1⟩ := h1
 replace h1 := dL_some h1; obtain ⟨rfl, h1⟩ := h1
 replace h1 := dSt_some h1; obtain ⟨_, _, rfl, h1⟩ := h1
 replace h1 := dL_some h1; obtain ⟨rfl, h1⟩ := h1
 replace h1 := dSt_some h1; obtain ⟨_, _, rfl, h1⟩ := h1
 replace h1 := dL_some h1; obtain ⟨rfl, h1⟩ := h1
 replace h1 := dSt_some h1; obtain ⟨_, _, rfl, h1⟩ := h1
 replace h1 := dL_some h1; obtain ⟨rfl, h1⟩ := h1
 replace h1 := dSt_some h1; obtain ⟨_, _, rfl, h1⟩ := h1
 replace h1 := dL_some h1; obtain ⟨rfl, h1⟩ := h1
 replace h1 := dSt_some h1; obtain ⟨_, _, rfl, h1⟩ := h1
 replace h1 := dL_some h1; obtain ⟨rfl, h1⟩ := h1
 replace h1 := dSt_some h1; obtain ⟨_, _, rfl, h1⟩ := h1
 replace h1 := dL_some h1; obtain ⟨rfl, h1⟩ := h1
 replace h1 := dSt_some h1; obtain ⟨_, _, rfl, h1⟩ := h1
 replace h1 := dL_some h1; obtain ⟨rfl, h1⟩ := h1
 replace h1 := dSt_some h1; obtain ⟨_, _, rfl, h1⟩ := h1
 replace h1 := dL_some h1; obtain ⟨rfl, h1⟩ := h1
 replace h1 := dSt_some h1; obtain ⟨_, _, rfl, h1⟩ := h1
 replace h1 := dL_some h1; obtain ⟨rfl, h1⟩ := h1
 replace h1 := dSt_some h1; obtain ⟨_, _, rfl, h1⟩ := h1
 replace h1 := dL_some h1; obtain ⟨rfl, h1⟩ := h1
 replace h1 := dSt_some h1; obtain ⟨_, _, rfl, h1⟩ := h1
 replace h1 := dL_some h1; obtain ⟨rfl, h1⟩ := h1
 replace h1 := dSt_some h1; obtain ⟨_, _, rfl, h1⟩ := h1
 replace h1 := dL_some h1; obtain ⟨rfl, h1⟩ := h1
 replace h1 := dSt_some h1; obtain ⟨_, _, rfl, h1⟩ := h1
 replace h1 := dL_some h1; obtain ⟨rfl, h1⟩ := h1
 replace h1 := dSt_some h1; obtain ⟨_, _, rfl, h1⟩ := h1
 replace h1 := dL_some h1; obtain ⟨rfl, h1⟩ := h1
 replace h1 := dSt_some h1; obtain ⟨_, _, rfl, h1⟩ := h1
 replace h1 := dL_some h1; obtain ⟨rfl, h1⟩ := h1
 replace h1 := dSt_some h1; obtain ⟨_, _, rfl, h1⟩ := h1
 replace h1 := dL_some h1; obtain ⟨rfl, h1⟩ := h1
 replace h1 := dSt_some h1; obtain ⟨_, _, rfl, h1⟩ := h1
 replace h1 := dL_some h1; obtain ⟨rfl, h1⟩ := h1
 replace h1 := dSt_some h1; obtain ⟨_, _, rfl, h1⟩ := h1
 replace h1 := dL_some h1; obtain ⟨rfl, h1⟩ := h1
 replace h1 := dSt_some h1; obtain ⟨_, _, rfl, h1⟩ := h1
 replace h1 := dL_some h1; obtain ⟨rfl, h1⟩ := h1
 replace h1 := dSt_some h1; obtain ⟨_, _, rfl, h1⟩ := h1
 replace h1 := dL_some h1; obtain ⟨rfl, h1⟩ := h1
 replace h1 := dSt_some h1; obtain ⟨_, _, rfl, h1⟩ := h1
 replace h1 := dL_some h1; obtain ⟨rfl, h1⟩ := h1
 replace h1 := dSt_some h1; obtain ⟨_, _, rfl, h1⟩ := h1
 replace h1 := dL_some h1; obtain ⟨rfl, h1⟩ := h1
 replace h1 := dSt_some h1; obtain ⟨_, _, rfl, h1⟩ := h1
 replace h1 := dL_some h1; obtain ⟨rfl, h1⟩ := h1
 replace h1 := dSt_some h1; obtain ⟨_, _, rfl, h1⟩ := h1
 replace h1 := dL_some h1; obtain ⟨rfl, h1⟩ := h1
 replace h1 := dSt_some h1; obtain ⟨_, _, rfl, h1⟩ := h1
 replace h1 := dL_some h1; obtain ⟨rfl, h1⟩ := h1
 replace h1 := dSt_some h1; obtain ⟨_, _, rfl, h1⟩ := h1
 replace h1 := dL_some h1; obtain ⟨rfl, h1⟩ := h1
 replace h1 := dSt_some h1; obtain ⟨_, _, rfl, h1⟩ := h1
 replace h1 := dL_some h1; obtain ⟨rfl, h1⟩ := h1
 replace h1 := dSt_some h1; obtain ⟨_, _, rfl, h1⟩ := h1
 replace h1 := dL_some h1; obtain ⟨rfl, h1⟩ := h1
 replace h1 := dSt_some h1; obtain ⟨_, _, rfl, h1⟩ := h1
 replace h1 := dL_some h1; obtain ⟨rfl, h1⟩ := h1
 replace h1 := dE_some h1; obtain ⟨rfl, h1⟩ := h1
 replace h1 := dLo_some h1; obtain ⟨_, _, rfl, h1⟩ := h1
 replace h1 := dJ5 h1; obtain ⟨_, _, _, _, _, _, rfl, h1⟩ := h1
 replace h1 := dC_some h1; obtain ⟨_, _, rfl, h1⟩ := h1
 replace h1 := dD_some h1; obtain ⟨_, rfl, h1⟩ := h1
 replace h1 := dJ9 h1; obtain ⟨_, _, _, _, _, _, _, _, _, _, rfl, h1⟩ := h1
 replace h1 := dE_some h1; obtain ⟨rfl, h1⟩ := h1
 replace h1 := dE_some h1; obtain ⟨rfl, h1⟩ := h1
 replace h1 := dE_some h1; obtain ⟨rfl, h1⟩ := h1
 cases h1
 obtain ⟨hc0, rfl, rfl⟩ := pick_one h2
 exact ⟨0 + 40, (evPiece_code rfl).trans (lL19_52_0 0 _ _ _ _ _ _ _ _ _ _ _ _ _ _ _ _ (ok_val hc0))⟩
noncomputable def L19_52_1 (x0 x1 x2 x3 x4 : Int) (x5 : (List (List (PKt × Int)))) (x6 x7 x8 x9 A B C D E : Int) : Option Bool := (cond (x8 != 0) (some (false)) (cond (x9 != 0) (some (false)) (cond (A != 0) (some (false)) (cond (B != 0) (some (false)) (cond (C != 0) (some (false)) (cond (ok (L19_92_0 x0 x1 x2 x3 x4 x5 x6 x7 x8 x9 A B C D E)) (some (val (L19_92_0 x0 x1 x2 x3 x4 x5 x6 x7 x8 x9 A B C D E))) none))))))
noncomputable def xL19_52_1 (x0 x1 x2 x3 x4 : Int) (x5 : (List (List (PKt × Int)))) (x6 x7 x8 x9 A B C D E : Int) : Bool → Ex × CS := fun r => (.ret, { sl := [(2, .v (.sc (.bool (r))))], lo := [], h := [], n0 := 0, w := true })
theorem bL19_52_1 (k : Nat) (cX : Ex → CS → Option (Ex × CS)) (x0 x1 x2 x3 x4 : Int) (x5 : (List (List (PKt × Int)))) (x6 x7 x8 x9 A B C D E : Int) : pieceBody Try.prog (mkTn base o37 t37 19) (TM.evF Try.prog (mkTn base o37 t37) dOk (k + 40)) dOk (k + 40) (codeAt Try.prog (tn0 19) 19 52) 0 52 { sl := [(1, .l 1 0), (3, .l 3 0), (5, .l 1 0), (7, .l 3 0), (11, .l 3 1), (16, .l 3 1), (21, .l 3 2), (26, .l 3 2), (31, .l 3 3), (36, .l 1 4), (41, .l 1 4), (46, .l 1 5), (52, .l 1 14), (57, .l 1 6), (58, .l 1 13), (63, .l 1 6), (64, .l 1 6), (68, .l 1 6), (69, .l 1 6), (71, .l 1 6), (72, .l 1 13), (74, .l 3 2), (81, .l 1 6), (82, .l 1 7), (87, .l 1 6), (88, .l 1 7), (93, .l 1 6), (94, .l 1 6)], lo := [(1, [I4 (x0), I4 (x1), I4 (x2), I4 (x3), I4 (x4), .d 51 (.list 55 QDy) (x5), I4 (x6), I4 (x7), I4 (x8), I4 (x9), I4 (A), I4 (B), I4 (C), I4 (D), .int .u64 (E)])], h := [], n0 := 0, w := false } cX = (cond (x8 != 0) (cX .ret { sl := [(2, .v (.sc (.bool (false))))], lo := [], h := [], n0 := 0, w := true }) (cond (x9 != 0) (cX .ret { sl := [(2, .v (.sc (.bool (false))))], lo := [], h := [], n0 := 0, w := true }) (cond (A != 0) (cX .ret { sl := [(2, .v (.sc (.bool (false))))], lo := [], h := [], n0 := 0, w := true }) (cond (B != 0) (cX .ret { sl := [(2, .v (.sc (.bool (false))))], lo := [], h := [], n0 := 0, w := true }) (cond (C != 0) (cX .ret { sl := [(2, .v (.sc (.bool (false))))], lo := [], h := [], n0 := 0, w := true }) (cond (ok (L19_92_0 x0 x1 x2 x3 x4 x5 x6 x7 x8 x9 A B C D E)) (cX .ret { sl := [(2, .v (.sc (.bool (val (L19_92_0 x0 x1 x2 x3 x4 x5 x6 x7 x8 x9 A B C D E)))))], lo := [], h := [], n0 := 0, w := true }) none)))))) := by kernel_rfl
theorem lL19_52_1 (k : Nat) (x0 x1 x2 x3 x4 : Int) (x5 : (List (List (PKt × Int)))) (x6 x7 x8 x9 A B C D E : Int) (r : Bool) : L19_52_1 x0 x1 x2 x3 x4 x5 x6 x7 x8 x9 A B C D E = some r → pieceBody Try.prog (mkTn base o37 t37 19) (TM.evF Try.prog (mkTn base o37 t37) dOk (k + 40)) dOk (k + 40) (codeAt Try.prog (tn0 19) 19 52) 0 52 { sl := [(1, .l 1 0), (3, .l 3 0), (5, .l 1 0), (7, .l 3 0), (11, .l 3 1), (16, .l 3 1), (21, .l 3 2), (26, .l 3 2), (31, .l 3 3), (36, .l 1 4), (41, .l 1 4), (46, .l 1 5), (52, .l 1 14), (57, .l 1 6), (58, .l 1 13), (63, .l 1 6), (64, .l 1 6), (68, .l 1 6), (69, .l 1 6), (71, .l 1 6), (72, .l 1 13), (74, .l 3 2), (81, .l 1 6), (82, .l 1 7), (87, .l 1 6), (88, .l 1 7), (93, .l 1 6), (94, .l 1 6)], lo := [(1, [I4 (x0), I4 (x1), I4 (x2), I4 (x3), I4 (x4), .d 51 (.list 55 QDy) (x5), I4 (x6), I4 (x7), I4 (x8), I4 (x9), I4 (A), I4 (B), I4 (C), I4 (D), .int .u64 (E)])], h := [], n0 := 0, w := false } (fun e s => some (e, s)) = some (xL19_52_1 x0 x1 x2 x3 x4 x5 x6 x7 x8 x9 A B C D E r) := by
 rw [bL19_52_1]
 unfold L19_52_1
 refine cond_go ?_ ?_
 intro h; cases h; rfl
 refine cond_go ?_ ?_
 intro h; cases h; rfl
 refine cond_go ?_ ?_
 intro h; cases h; rfl
 refine cond_go ?_ ?_
 intro h; cases h; rfl
 refine cond_go ?_ ?_
 intro h; cases h; rfl
 refine cond_go ?_ ?_
 intro h; cases h; rfl
 intro h; cases h
noncomputable def sL19_52_1 : TellS := fun S => dCS 0 S fun y1 y2 y3 => dSt 1 y1 fun y5 l4 => dL 1 0 y5 <| dSt 3 l4 fun y7 l6 => dL 3 0 y7 <| dSt 5 l6 fun y9 l8 => dL 1 0 y9 <| dSt 7 l8 fun y11 l10 => dL 3 0 y11 <| dSt 11 l10 fun y13 l12 => dL 3 1 y13 <| dSt 16 l12 fun y15 l14 => dL 3 1 y15 <| dSt 21 l14 fun y17 l16 => dL 3 2 y17 <| dSt 26 l16 fun y19 l18 => dL 3 2 y19 <| dSt 31 l18 fun y21 l20 => dL 3 3 y21 <| dSt 36 l20 fun y23 l22 => dL 1 4 y23 <| dSt 41 l22 fun y25 l24 => dL 1 4 y25 <| dSt 46 l24 fun y27 l26 => dL 1 5 y27 <| dSt 52 l26 fun y29 l28 => dL 1 14 y29 <| dSt 57 l28 fun y31 l30 => dL 1 6 y31 <| dSt 58 l30 fun y33 l32 => dL 1 13 y33 <| dSt 63 l32 fun y35 l34 => dL 1 6 y35 <| dSt 64 l34 fun y37 l36 => dL 1 6 y37 <| dSt 68 l36 fun y39 l38 => dL 1 6 y39 <| dSt 69 l38 fun y41 l40 => dL 1 6 y41 <| dSt 71 l40 fun y43 l42 => dL 1 6 y43 <| dSt 72 l42 fun y45 l44 => dL 1 13 y45 <| dSt 74 l44 fun y47 l46 => dL 3 2 y47 <| dSt 81 l46 fun y49 l48 => dL 1 6 y49 <| dSt 82 l48 fun y51 l50 => dL 1 7 y51 <| dSt 87 l50 fun y53 l52 => dL 1 6 y53 <| dSt 88 l52 fun y55 l54 => dL 1 7 y55 <| dSt 93 l54 fun y57 l56 => dL 1 6 y57 <| dSt 94 l56 fun y59 l58 => dL 1 6 y59 <| dE l58 <| dLo 1 y2 fun y60 l61 => dCI .i64 y60 fun x0 l62 => dCI .i64 l62 fun x1 l63 => dCI .i64 l63 fun x2 l64 => dCI .i64 l64 fun x3 l65 => dCI .i64 l65 fun x4 l66 => dC l66 fun y67 l68 => dD 51 (.list 55 QDy) y67 fun x5 => dCI .i64 l68 fun x6 l69 => dCI .i64 l69 fun x7 l70 => dCI .i64 l70 fun x8 l71 => dCI .i64 l71 fun x9 l72 => dCI .i64 l72 fun A l73 => dCI .i64 l73 fun B l74 => dCI .i64 l74 fun C l75 => dCI .i64 l75 fun D l76 => dCI .u64 l76 fun E l77 => dE l77 <| dE l61 <| dE y3 <|  some [(ok (L19_52_1 x0 x1 x2 x3 x4 x5 x6 x7 x8 x9 A B C D E), .ret, { sl := [(2, .v (.sc (.bool ((val (L19_52_1 x0 x1 x2 x3 x4 x5 x6 x7 x8 x9 A B C D E))))))], lo := [], h := [], n0 := 0, w := true })]
theorem wL19_52_1 : NewTell Try.prog dOk base o37 t37 ((19, 52), sL19_52_1) := by
 refine ⟨(codeAt Try.prog (tn0 19) 19 52), 0, by kernel_rfl, ?_⟩
 intro S alts e S' h10 h2
 have h1 : sL19_52_1 S = some alts := h10
 clear h10
 unfold sL19_52_1 at h1
 replace h1 := dCS_some h1; obtain ⟨_, _, _, rfl, h1⟩ := h1
 replace h1 := dSt_some h1; obtain ⟨_, _, rfl, h1⟩ := h1
 replace h1 := dL_some h1; obtain ⟨rfl, h1⟩ := h1
 replace h1 := dSt_some h1; obtain ⟨_, _, rfl, h1⟩ := h1
 replace h1 := dL_some h1; obtain ⟨rfl, h1⟩ := h1
 replace h1 := dSt_some h1; obtain ⟨_, _, rfl, h1⟩ := h1
 replace h1 := dL_some h1; obtain ⟨rfl, h1⟩ := h1
 replace h1 := dSt_some h1; obtain ⟨_, _, rfl, h1⟩ := h1
 replace h1 := dL_some h1; obtain ⟨rfl, h1⟩ := h1
 replace h1 := dSt_some h1; obtain ⟨_, _, rfl, h1⟩ := h1
 replace h1 := dL_some h1; obtain ⟨rfl, h1⟩ := h1
 replace h1 := dSt_some h1; obtain ⟨_, _, rfl, h1⟩ := h1
 replace h1 := dL_some h1; obtain ⟨rfl, h1⟩ := h1
 replace h1 := dSt_some h1; obtain ⟨_, _, rfl, h1⟩ := h1
 replace h1 := dL_some h1; obtain ⟨rfl, h1⟩ := h1
 replace h1 := dSt_some h1; obtain ⟨_, _, rfl, h1⟩ := h1
 replace h1 := dL_some h1; obtain ⟨rfl, h1⟩ := h1
 replace h1 := dSt_some h1; obtain ⟨_, _, rfl, h1⟩ := h1
 replace h1 := dL_some h1; obtain ⟨rfl, h1⟩ := h1
 replace h1 := dSt_some h1; obtain ⟨_, _, rfl, h1⟩ := h1
 replace h1 := dL_some h1; obtain ⟨rfl, h1⟩ := h1
 replace h1 := dSt_some h1; obtain ⟨_, _, rfl, h1⟩ := h1
 replace h1 := dL_some h1; obtain ⟨rfl, h1⟩ := h1
 replace h1 := dSt_some h1; obtain ⟨_, _, rfl, h1⟩ := h1
 replace h1 := dL_some h1; obtain ⟨rfl, h1⟩ := h1
 replace h1 := dSt_some h1; obtain ⟨_, _, rfl, h1⟩ := h1
 replace h1 := dL_some h1; obtain ⟨rfl, h1⟩ := h1
 replace h1 := dSt_some h1; obtain ⟨_, _, rfl, h1⟩ := h1
 replace h1 := dL_some h1; obtain ⟨rfl, h1⟩ := h1
 replace h1 := dSt_some h1; obtain ⟨_, _, rfl, h1⟩ := h1
 replace h1 := dL_some h1; obtain ⟨rfl, h1⟩ := h1
 replace h1 := dSt_some h1; obtain ⟨_, _, rfl, h1⟩ := h1
 replace h1 := dL_some h1; obtain ⟨rfl, h1⟩ := h1
 replace h1 := dSt_some h1; obtain ⟨_, _, rfl, h1⟩ := h1
 replace h1 := dL_some h1; obtain ⟨rfl, h1⟩ := h1
 replace h1 := dSt_some h1; obtain ⟨_, _, rfl, h1⟩ := h1
 replace h1 := dL_some h1; obtain ⟨rfl, h1⟩ := h1
 replace h1 := dSt_some h1; obtain ⟨_, _, rfl, h1⟩ := h1
 replace h1 := dL_some h1; obtain ⟨rfl, h1⟩ := h1
 replace h1 := dSt_some h1; obtain ⟨_, _, rfl, h1⟩ := h1
 replace h1 := dL_some h1; obtain ⟨rfl, h1⟩ := h1
 replace h1 := dSt_some h1; obtain ⟨_, _, rfl, h1⟩ := h1
 replace h1 := dL_some h1; obtain ⟨rfl, h1⟩ := h1
 replace h1 := dSt_some h1; obtain ⟨_, _, rfl, h1⟩ := h1
 replace h1 := dL_some h1; obtain ⟨rfl, h1⟩ := h1
 replace h1 := dSt_some h1; obtain ⟨_, _, rfl, h1⟩ := h1
 replace h1 := dL_some h1; obtain ⟨rfl, h1⟩ := h1
 replace h1 := dSt_some h1; obtain ⟨_, _, rfl, h1⟩ := h1
 replace h1 := dL_some h1; obtain ⟨rfl, h1⟩ := h1
 replace h1 := dSt_some h1; obtain ⟨_, _, rfl, h1⟩ := h1
 replace h1 := dL_some h1; obtain ⟨rfl, h1⟩ := h1
 replace h1 := dSt_some h1; obtain ⟨_, _, rfl, h1⟩ := h1
 replace h1 := dL_some h1; obtain ⟨rfl, h1⟩ := h1
 replace h1 := dSt_some h1; obtain ⟨_, _, rfl, h1⟩ := h1
 replace h1 := dL_some h1; obtain ⟨rfl, h1⟩ := h1
 replace h1 := dSt_some h1; obtain ⟨_, _, rfl, h1⟩ := h1
 replace h1 := dL_some h1; obtain ⟨rfl, h1⟩ := h1
 replace h1 := dE_some h1; obtain ⟨rfl, h1⟩ := h1
 replace h1 := dLo_some h1; obtain ⟨_, _, rfl, h1⟩ := h1
 replace h1 := dJ5 h1; obtain ⟨_, _, _, _, _, _, rfl, h1⟩ := h1
 replace h1 := dC_some h1; obtain ⟨_, _, rfl, h1⟩ := h1
 replace h1 := dD_some h1; obtain ⟨_, rfl, h1⟩ := h1
 replace h1 := dJ9 h1; obtain ⟨_, _, _, _, _, _, _, _, _, _, rfl, h1⟩ := h1
 replace h1 := dE_some h1; obtain ⟨rfl, h1⟩ := h1
 replace h1 := dE_some h1; obtain ⟨rfl, h1⟩ := h1
 replace h1 := dE_some h1; obtain ⟨rfl, h1⟩ := h1
 cases h1
 obtain ⟨hc0, rfl, rfl⟩ := pick_one h2
 exact ⟨0 + 40, (evPiece_code rfl).trans (lL19_52_1 0 _ _ _ _ _ _ _ _ _ _ _ _ _ _ _ _ (ok_val hc0))⟩
noncomputable def o38 : OrcT := o37
noncomputable def t38 : TellT := ((19, 52), sL19_52_0) :: ((19, 52), sL19_52_1) :: t37
noncomputable abbrev tn38 : FuncId → TAn := mkTn base o38 t38
theorem ok38 : TnOk Try.prog tn38 (mkA base) dOk := by
 have h0 : TnOk Try.prog (mkTn base o37 t37) (mkA base) dOk := ok37
 have h1 := tn_tell h0 h0 (p := ((19, 52), sL19_52_1)) wL19_52_1
 have h2 := tn_tell h0 h1 (p := ((19, 52), sL19_52_0)) wL19_52_0
 exact h2
noncomputable def L19_36_0 (x0 x1 x2 x3 x4 : Int) (x5 : (List (List (PKt × Int)))) (x6 x7 x8 x9 A B C D E F G I J : Int) : Option Bool := (cond (decide (x6 < 0)) (some (false)) (cond (decide (x6 > IntKind.wrap IntKind.i64 (IntKind.wrap IntKind.i64 (D + I) + (1 : Int)))) (some (false)) (cond (decide (x7 < 0)) (some (false)) (cond (decide (x7 > (1000000000 : Int))) (some (false)) (cond (x6 == 0) (cond (x7 != 0) (some (false)) (cond (ok (L19_52_0 x0 x1 x2 x3 x4 x5 x6 x7 x8 x9 A B C D E)) (some (val (L19_52_0 x0 x1 x2 x3 x4 x5 x6 x7 x8 x9 A B C D E))) none)) (cond (ok (L19_52_1 x0 x1 x2 x3 x4 x5 x6 x7 x8 x9 A B C D E)) (some (val (L19_52_1 x0 x1 x2 x3 x4 x5 x6 x7 x8 x9 A B C D E))) none))))))
noncomputable def xL19_36_0 (x0 x1 x2 x3 x4 : Int) (x5 : (List (List (PKt × Int)))) (x6 x7 x8 x9 A B C D E F G I J : Int) : Bool → Ex × CS := fun r => (.ret, { sl := [(2, .v (.sc (.bool (r))))], lo := [], h := [], n0 := 0, w := true })
theorem bL19_36_0 (k : Nat) (cX : Ex → CS → Option (Ex × CS)) (x0 x1 x2 x3 x4 : Int) (x5 : (List (List (PKt × Int)))) (x6 x7 x8 x9 A B C D E F G I J : Int) : pieceBody Try.prog (mkTn base o38 t38 19) (TM.evF Try.prog (mkTn base o38 t38) dOk (k + 40)) dOk (k + 40) (codeAt Try.prog (tn0 19) 19 36) 0 36 { sl := [(1, .l 1 0), (3, .l 3 0), (5, .l 1 0), (7, .l 3 0), (11, .l 3 1), (16, .l 3 1), (21, .l 3 2), (26, .l 3 2), (31, .l 3 3), (36, .l 1 4), (41, .l 1 4), (46, .l 1 5), (52, .l 1 14), (57, .l 1 6), (58, .l 1 13)], lo := [(1, [I4 (x0), I4 (x1), I4 (x2), I4 (x3), I4 (x4), .d 51 (.list 55 QDy) (x5), I4 (x6), I4 (x7), I4 (x8), I4 (x9), I4 (A), I4 (B), I4 (C), I4 (D), .int .u64 (E)]), (3, [I4 (F), I4 (G), I4 (I), I4 (J)])], h := [], n0 := 0, w := false } cX = (cond (decide (x6 < 0)) (cX .ret { sl := [(2, .v (.sc (.bool (false))))], lo := [], h := [], n0 := 0, w := true }) (cond (decide (x6 > IntKind.wrap IntKind.i64 (IntKind.wrap IntKind.i64 (D + I) + (1 : Int)))) (cX .ret { sl := [(2, .v (.sc (.bool (false))))], lo := [], h := [], n0 := 0, w := true }) (cond (decide (x7 < 0)) (cX .ret { sl := [(2, .v (.sc (.bool (false))))], lo := [], h := [], n0 := 0, w := true }) (cond (decide (x7 > (1000000000 : Int))) (cX .ret { sl := [(2, .v (.sc (.bool (false))))], lo := [], h := [], n0 := 0, w := true }) (cond (x6 == 0) (cond (x7 != 0) (cX .ret { sl := [(2, .v (.sc (.bool (false))))], lo := [], h := [], n0 := 0, w := true }) (cond (ok (L19_52_0 x0 x1 x2 x3 x4 x5 x6 x7 x8 x9 A B C D E)) (cX .ret { sl := [(2, .v (.sc (.bool (val (L19_52_0 x0 x1 x2 x3 x4 x5 x6 x7 x8 x9 A B C D E)))))], lo := [], h := [], n0 := 0, w := true }) none)) (cond (ok (L19_52_1 x0 x1 x2 x3 x4 x5 x6 x7 x8 x9 A B C D E)) (cX .ret { sl := [(2, .v (.sc (.bool (val (L19_52_1 x0 x1 x2 x3 x4 x5 x6 x7 x8 x9 A B C D E)))))], lo := [], h := [], n0 := 0, w := true }) none)))))) := by kernel_rfl
theorem lL19_36_0 (k : Nat) (x0 x1 x2 x3 x4 : Int) (x5 : (List (List (PKt × Int)))) (x6 x7 x8 x9 A B C D E F G I J : Int) (r : Bool) : L19_36_0 x0 x1 x2 x3 x4 x5 x6 x7 x8 x9 A B C D E F G I J = some r → pieceBody Try.prog (mkTn base o38 t38 19) (TM.evF Try.prog (mkTn base o38 t38) dOk (k + 40)) dOk (k + 40) (codeAt Try.prog (tn0 19) 19 36) 0 36 { sl := [(1, .l 1 0), (3, .l 3 0), (5, .l 1 0), (7, .l 3 0), (11, .l 3 1), (16, .l 3 1), (21, .l 3 2), (26, .l 3 2), (31, .l 3 3), (36, .l 1 4), (41, .l 1 4), (46, .l 1 5), (52, .l 1 14), (57, .l 1 6), (58, .l 1 13)], lo := [(1, [I4 (x0), I4 (x1), I4 (x2), I4 (x3), I4 (x4), .d 51 (.list 55 QDy) (x5), I4 (x6), I4 (x7), I4 (x8), I4 (x9), I4 (A), I4 (B), I4 (C), I4 (D), .int .u64 (E)]), (3, [I4 (F), I4 (G), I4 (I), I4 (J)])], h := [], n0 := 0, w := false } (fun e s => some (e, s)) = some (xL19_36_0 x0 x1 x2 x3 x4 x5 x6 x7 x8 x9 A B C D E F G I J r) := by
 rw [bL19_36_0]
 unfold L19_36_0
 refine cond_go ?_ ?_
 intro h; cases h; rfl
 refine cond_go ?_ ?_
 intro h; cases h; rfl
 refine cond_go ?_ ?_
 intro h; cases h; rfl
 refine cond_go ?_ ?_
 intro h; cases h; rfl
 refine cond_go ?_ ?_
 refine cond_go ?_ ?_
 intro h; cases h; rfl
 refine cond_go ?_ ?_
 intro h; cases h; rfl
 intro h; cases h
 refine cond_go ?_ ?_
 intro h; cases h; rfl
 intro h; cases h
noncomputable def sL19_36_0 : TellS := fun S => dCS 0 S fun y1 y2 y3 => dSt 1 y1 fun y5 l4 => dL 1 0 y5 <| dSt 3 l4 fun y7 l6 => dL 3 0 y7 <| dSt 5 l6 fun y9 l8 => dL 1 0 y9 <| dSt 7 l8 fun y11 l10 => dL 3 0 y11 <| dSt 11 l10 fun y13 l12 => dL 3 1 y13 <| dSt 16 l12 fun y15 l14 => dL 3 1 y15 <| dSt 21 l14 fun y17 l16 => dL 3 2 y17 <| dSt 26 l16 fun y19 l18 => dL 3 2 y19 <| dSt 31 l18 fun y21 l20 => dL 3 3 y21 <| dSt 36 l20 fun y23 l22 => dL 1 4 y23 <| dSt 41 l22 fun y25 l24 => dL 1 4 y25 <| dSt 46 l24 fun y27 l26 => dL 1 5 y27 <| dSt 52 l26 fun y29 l28 => dL 1 14 y29 <| dSt 57 l28 fun y31 l30 => dL 1 6 y31 <| dSt 58 l30 fun y33 l32 => dL 1 13 y33 <| dE l32 <| dLo 1 y2 fun y34 l35 => dCI .i64 y34 fun x0 l36 => dCI .i64 l36 fun x1 l37 => dCI .i64 l37 fun x2 l38 => dCI .i64 l38 fun x3 l39 => dCI .i64 l39 fun x4 l40 => dC l40 fun y41 l42 => dD 51 (.list 55 QDy) y41 fun x5 => dCI .i64 l42 fun x6 l43 => dCI .i64 l43 fun x7 l44 => dCI .i64 l44 fun x8 l45 => dCI .i64 l45 fun x9 l46 => dCI .i64 l46 fun A l47 => dCI .i64 l47 fun B l48 => dCI .i64 l48 fun C l49 => dCI .i64 l49 fun D l50 => dCI .u64 l50 fun E l51 => dE l51 <| dLo 3 l35 fun y52 l53 => dCI .i64 y52 fun F l54 => dCI .i64 l54 fun G l55 => dCI .i64 l55 fun I l56 => dCI .i64 l56 fun J l57 => dE l57 <| dE l53 <| dE y3 <|  some [(ok (L19_36_0 x0 x1 x2 x3 x4 x5 x6 x7 x8 x9 A B C D E F G I J), .ret, { sl := [(2, .v (.sc (.bool ((val (L19_36_0 x0 x1 x2 x3 x4 x5 x6 x7 x8 x9 A B C D E F G I J))))))], lo := [], h := [], n0 := 0, w := true })]
theorem wL19_36_0 : NewTell Try.prog dOk base o38 t38 ((19, 36), sL19_36_0) := by
 refine ⟨(codeAt Try.prog (tn0 19) 19 36), 0, by kernel_rfl, ?_⟩
 intro S alts e S' h10 h2
 have h1 : sL19_36_0 S = some alts := h10
 clear h10
 unfold sL19_36_0 at h1
 replace h1 := dCS_some h1; obtain ⟨_, _, _, rfl, h1⟩ := h1
 replace h1 := dSt_some h1; obtain ⟨_, _, rfl, h1⟩ := h1
 replace h1 := dL_some h1; obtain ⟨rfl, h1⟩ := h1
 replace h1 := dSt_some h1; obtain ⟨_, _, rfl, h1⟩ := h1
 replace h1 := dL_some h1; obtain ⟨rfl, h1⟩ := h1
 replace h1 := dSt_some h1; obtain ⟨_, _, rfl, h1⟩ := h1
 replace h1 := dL_some h1; obtain ⟨rfl, h1⟩ := h1
 replace h1 := dSt_some h1; obtain ⟨_, _, rfl, h1⟩ := h1
 replace h1 := dL_some h1; obtain ⟨rfl, h1⟩ := h1
 replace h1 := dSt_some h1; obtain ⟨_, _, rfl, h1⟩ := h1
 replace h1 := dL_some h1; obtain ⟨rfl, h1⟩ := h1
 replace h1 := dSt_some h1; obtain ⟨_, _, rfl, h1⟩ := h1
 replace h1 := dL_some h1; obtain ⟨rfl, h1⟩ := h1
 replace h1 := dSt_some h1; obtain ⟨_, _, rfl, h1⟩ := h1
 replace h1 := dL_some h1; obtain ⟨rfl, h1⟩ := h1
 replace h1 := dSt_some h1; obtain ⟨_, _, rfl, h1⟩ := h1
 replace h1 := dL_some h1; obtain ⟨rfl, h1⟩ := h1
 replace h1 := dSt_some h1; obtain ⟨_, _, rfl, h1⟩ := h1
 replace h1 := dL_some h1; obtain ⟨rfl, h1⟩ := h1
 replace h1 := dSt_some h1; obtain ⟨_, _, rfl, h1⟩ := h1
 replace h1 := dL_some h1; obtain ⟨rfl, h1⟩ := h1
 replace h1 := dSt_some h1; obtain ⟨_, _, rfl, h1⟩ := h1
 replace h1 := dL_some h1; obtain ⟨rfl, h1⟩ := h1
 replace h1 := dSt_some h1; obtain ⟨_, _, rfl, h1⟩ := h1
 replace h1 := dL_some h1; obtain ⟨rfl, h1⟩ := h1
 replace h1 := dSt_some h1; obtain ⟨_, _, rfl, h1⟩ := h1
 replace h1 := dL_some h1; obtain ⟨rfl, h1⟩ := h1
 replace h1 := dSt_some h1; obtain ⟨_, _, rfl, h1⟩ := h1
 replace h1 := dL_some h1; obtain ⟨rfl, h1⟩ := h1
 replace h1 := dSt_some h1; obtain ⟨_, _, rfl, h1⟩ := h1
 replace h1 := dL_some h1; obtain ⟨rfl, h1⟩ := h1
 replace h1 := dE_some h1; obtain ⟨rfl, h1⟩ := h1
 replace h1 := dLo_some h1; obtain ⟨_, _, rfl, h1⟩ := h1
 replace h1 := dJ5 h1; obtain ⟨_, _, _, _, _, _, rfl, h1⟩ := h1
 replace h1 := dC_some h1; obtain ⟨_, _, rfl, h1⟩ := h1
 replace h1 := dD_some h1; obtain ⟨_, rfl, h1⟩ := h1
 replace h1 := dJ9 h1; obtain ⟨_, _, _, _, _, _, _, _, _, _, rfl, h1⟩ := h1
 replace h1 := dE_some h1; obtain ⟨rfl, h1⟩ := h1
 replace h1 := dLo_some h1; obtain ⟨_, _, rfl, h1⟩ := h1
 replace h1 := dJ4 h1; obtain ⟨_, _, _, _, _, rfl, h1⟩ := h1
 replace h1 := dE_some h1; obtain ⟨rfl, h1⟩ := h1
 replace h1 := dE_some h1; obtain ⟨rfl, h1⟩ := h1
 replace h1 := dE_some h1; obtain ⟨rfl, h1⟩ := h1
 cases h1
 obtain ⟨hc0, rfl, rfl⟩ := pick_one h2
 exact ⟨0 + 40, (evPiece_code rfl).trans (lL19_36_0 0 _ _ _ _ _ _ _ _ _ _ _ _ _ _ _ _ _ _ _ _ (ok_val hc0))⟩
noncomputable def o39 : OrcT := o38
noncomputable def t39 : TellT := ((19, 36), sL19_36_0) :: t38
noncomputable abbrev tn39 : FuncId → TAn := mkTn base o39 t39
theorem ok39 : TnOk Try.prog tn39 (mkA base) dOk := by
 have h0 : TnOk Try.prog (mkTn base o38 t38) (mkA base) dOk := ok38
 have h1 := tn_tell h0 h0 (p := ((19, 36), sL19_36_0)) wL19_36_0
 exact h1
noncomputable def v19 (x0 x1 x2 x3 x4 : Int) (x5 : (List (List (PKt × Int)))) (x6 x7 x8 x9 A B C D E : Int) : Option Bool := (cond (x0 != (3 : Int)) (some (false)) (cond (decide (x1 < 0)) (some (false)) (cond (decide (x1 > (1000000 : Int))) (some (false)) (cond (decide (x2 < (1 : Int))) (some (false)) (cond (decide (x2 > (1000000 : Int))) (some (false)) (cond (x3 != 0) (some (false)) (cond (decide (x4 < (1 : Int))) (some (false)) (cond (decide (x4 > (500 : Int))) (some (false)) (cond ((↑(List.length x5) : Int) != (1 : Int)) (some (false)) (cond (E != 0) (some (false)) (cond (ok (v26 D)) (cond (!val (v26 D)) (some (false)) (cond (ok (L19_36_0 x0 x1 x2 x3 x4 x5 x6 x7 x8 x9 A B C D E x0 x1 x2 x3)) (some (val (L19_36_0 x0 x1 x2 x3 x4 x5 x6 x7 x8 x9 A B C D E x0 x1 x2 x3))) none)) none)))))))))))
theorem ev19 (x0 x1 x2 x3 x4 : Int) (x5 : (List (List (PKt × Int)))) (x6 x7 x8 x9 A B C D E : Int) : fnBody Try.prog (mkTn base o39 t39 19) (TM.evF Try.prog (mkTn base o39 t39) dOk 40) dOk 40 19 [.agg [I4 (x0), I4 (x1), I4 (x2), I4 (x3), I4 (x4), .d 51 (.list 55 QDy) (x5), I4 (x6), I4 (x7), I4 (x8), I4 (x9), I4 (A), I4 (B), I4 (C), I4 (D), .int .u64 (E)]] [] = (v19 x0 x1 x2 x3 x4 x5 x6 x7 x8 x9 A B C D E).bind fun r => some ([.sc (.bool (r))], []) := by
 refine Eq.trans (b := (cond (x0 != (3 : Int)) (some ([.sc (.bool (false))], [])) (cond (decide (x1 < 0)) (some ([.sc (.bool (false))], [])) (cond (decide (x1 > (1000000 : Int))) (some ([.sc (.bool (false))], [])) (cond (decide (x2 < (1 : Int))) (some ([.sc (.bool (false))], [])) (cond (decide (x2 > (1000000 : Int))) (some ([.sc (.bool (false))], [])) (cond (x3 != 0) (some ([.sc (.bool (false))], [])) (cond (decide (x4 < (1 : Int))) (some ([.sc (.bool (false))], [])) (cond (decide (x4 > (500 : Int))) (some ([.sc (.bool (false))], [])) (cond ((↑(List.length x5) : Int) != (1 : Int)) (some ([.sc (.bool (false))], [])) (cond (E != 0) (some ([.sc (.bool (false))], [])) (cond (ok (v26 D)) (cond (!val (v26 D)) (some ([.sc (.bool (false))], [])) (cond (ok (L19_36_0 x0 x1 x2 x3 x4 x5 x6 x7 x8 x9 A B C D E x0 x1 x2 x3)) (some ([.sc (.bool (val (L19_36_0 x0 x1 x2 x3 x4 x5 x6 x7 x8 x9 A B C D E x0 x1 x2 x3)))], [])) none)) none)))))))))))) (by kernel_rfl) ?_
 unfold v19
 refine cond_bd ?_ ?_
 rfl
 refine cond_bd ?_ ?_
 rfl
 refine cond_bd ?_ ?_
 rfl
 refine cond_bd ?_ ?_
 rfl
 refine cond_bd ?_ ?_
 rfl
 refine cond_bd ?_ ?_
 rfl
 refine cond_bd ?_ ?_
 rfl
 refine cond_bd ?_ ?_
 rfl
 refine cond_bd ?_ ?_
 rfl
 refine cond_bd ?_ ?_
 rfl
 refine cond_bd ?_ ?_
 refine cond_bd ?_ ?_
 rfl
 refine cond_bd ?_ ?_
 rfl
 rfl
 rfl
noncomputable def sv19 : OrcS := fun al H => dC al fun y1 l2 => dA y1 fun y3 => dCI .i64 y3 fun x0 l4 => dCI .i64 l4 fun x1 l5 => dCI .i64 l5 fun x2 l6 => dCI .i64 l6 fun x3 l7 => dCI .i64 l7 fun x4 l8 => dC l8 fun y9 l10 => dD 51 (.list 55 QDy) y9 fun x5 => dCI .i64 l10 fun x6 l11 => dCI .i64 l11 fun x7 l12 => dCI .i64 l12 fun x8 l13 => dCI .i64 l13 fun x9 l14 => dCI .i64 l14 fun A l15 => dCI .i64 l15 fun B l16 => dCI .i64 l16 fun C l17 => dCI .i64 l17 fun D l18 => dCI .u64 l18 fun E l19 => dE l19 <| dE l2 <| dE H <|  some [(ok (v19 x0 x1 x2 x3 x4 x5 x6 x7 x8 x9 A B C D E), [.sc (.bool ((val (v19 x0 x1 x2 x3 x4 x5 x6 x7 x8 x9 A B C D E))))], [])]
theorem wv19 : NewOrc Try.prog dOk base o39 t39 (19, sv19) := by
 intro al H q hq0 rs H2 h2
 have hq : sv19 al H = some q := hq0
 clear hq0
 unfold sv19 at hq
 obtain ⟨_, _, rfl, g1⟩ := dC_some hq
 obtain ⟨_, rfl, g2⟩ := dA_some g1
 obtain ⟨_, _, _, _, _, _, rfl, g3⟩ := dJ5 g2
 obtain ⟨_, _, rfl, g4⟩ := dC_some g3
 obtain ⟨_, rfl, g5⟩ := dD_some g4
 obtain ⟨_, _, _, _, _, _, _, _, _, _, rfl, g6⟩ := dJ9 g5
 obtain ⟨rfl, g7⟩ := dE_some g6
 obtain ⟨rfl, g8⟩ := dE_some g7
 obtain ⟨rfl, g9⟩ := dE_some g8
 cases g9
 obtain ⟨hc0, rfl, rfl⟩ := pickR_one h2
 exact ⟨41, (fn_eq (by kernel_rfl)).trans ((ev19 _ _ _ _ _ _ _ _ _ _ _ _ _ _ _).trans (bind_of (ok_val hc0)))⟩
noncomputable def o40 : OrcT := (19, sv19) :: o39
noncomputable def t40 : TellT := t39
noncomputable abbrev tn40 : FuncId → TAn := mkTn base o40 t40
theorem ok40 : TnOk Try.prog tn40 (mkA base) dOk := by
 have h0 : TnOk Try.prog (mkTn base o39 t39) (mkA base) dOk := ok39
 have h1 := tn_orc h0 h0 (p := (19, sv19)) wv19
 exact h1
noncomputable def v29 (x0 x1 x2 : Int) : Option (Int × Int × (List (List (PKt × Int))) × Int × Int × Int × Int × Int × Int × Int × Int × Int) := (some ((3 : Int), 0, [[]], 0, 0, 0, 0, 0, 0, 0, 0, 0))
theorem ev29 (x0 x1 x2 : Int) : fnBody Try.prog (mkTn base o40 t40 29) (TM.evF Try.prog (mkTn base o40 t40) dOk 40) dOk 40 29 [.sc (I4 (x0)), .sc (I4 (x1)), .sc (I4 (x2))] [] = (v29 x0 x1 x2).bind fun r => some ([.agg [I4 (r.1), I4 (x0), I4 (x1), I4 (r.2.1), I4 (x2), .d 51 (.list 55 QDy) (r.2.2.1 : List (List (PKt × Int))), I4 (r.2.2.2.1), I4 (r.2.2.2.2.1), I4 (r.2.2.2.2.2.1), I4 (r.2.2.2.2.2.2.1), I4 (r.2.2.2.2.2.2.2.1), I4 (r.2.2.2.2.2.2.2.2.1), I4 (r.2.2.2.2.2.2.2.2.2.1), I4 (r.2.2.2.2.2.2.2.2.2.2.1), .int .u64 (r.2.2.2.2.2.2.2.2.2.2.2)]], []) := by
 refine Eq.trans (b := (some ([.agg [I4 ((3 : Int)), I4 (x0), I4 (x1), I4 (0), I4 (x2), .d 51 (.list 55 QDy) ([[]] : List (List (PKt × Int))), I4 (0), I4 (0), I4 (0), I4 (0), I4 (0), I4 (0), I4 (0), I4 (0), .int .u64 (0)]], []))) (by kernel_rfl) ?_
 unfold v29
 rfl
noncomputable def sv29 : OrcS := fun al H => dC al fun y1 l2 => dS y1 fun y3 => dInt .i64 y3 fun x0 => dC l2 fun y4 l5 => dS y4 fun y6 => dInt .i64 y6 fun x1 => dC l5 fun y7 l8 => dS y7 fun y9 => dInt .i64 y9 fun x2 => dE l8 <| dE H <|  some [(ok (v29 x0 x1 x2), [.agg [I4 ((val (v29 x0 x1 x2)).1), I4 (x0), I4 (x1), I4 ((val (v29 x0 x1 x2)).2.1), I4 (x2), .d 51 (.list 55 QDy) ((val (v29 x0 x1 x2)).2.2.1 : List (List (PKt × Int))), I4 ((val (v29 x0 x1 x2)).2.2.2.1), I4 ((val (v29 x0 x1 x2)).2.2.2.2.1), I4 ((val (v29 x0 x1 x2)).2.2.2.2.2.1), I4 ((val (v29 x0 x1 x2)).2.2.2.2.2.2.1), I4 ((val (v29 x0 x1 x2)).2.2.2.2.2.2.2.1), I4 ((val (v29 x0 x1 x2)).2.2.2.2.2.2.2.2.1), I4 ((val (v29 x0 x1 x2)).2.2.2.2.2.2.2.2.2.1), I4 ((val (v29 x0 x1 x2)).2.2.2.2.2.2.2.2.2.2.1), .int .u64 ((val (v29 x0 x1 x2)).2.2.2.2.2.2.2.2.2.2.2)]], [])]
theorem wv29 : NewOrc Try.prog dOk base o40 t40 (29, sv29) := by
 intro al H q hq0 rs H2 h2
 have hq : sv29 al H = some q := hq0
 clear hq0
 unfold sv29 at hq
 obtain ⟨_, _, rfl, g1⟩ := dC_some hq
 obtain ⟨_, rfl, g2⟩ := dS_some g1
 obtain ⟨_, rfl, g3⟩ := dInt_some g2
 obtain ⟨_, _, rfl, g4⟩ := dC_some g3
 obtain ⟨_, rfl, g5⟩ := dS_some g4
 obtain ⟨_, rfl, g6⟩ := dInt_some g5
 obtain ⟨_, _, rfl, g7⟩ := dC_some g6
 obtain ⟨_, rfl, g8⟩ := dS_some g7
 obtain ⟨_, rfl, g9⟩ := dInt_some g8
 obtain ⟨rfl, g10⟩ := dE_some g9
 obtain ⟨rfl, g11⟩ := dE_some g10
 cases g11
 obtain ⟨hc0, rfl, rfl⟩ := pickR_one h2
 exact ⟨41, (fn_eq (by kernel_rfl)).trans ((ev29 _ _ _).trans (bind_of (ok_val hc0)))⟩
noncomputable def o41 : OrcT := (29, sv29) :: o40
noncomputable def t41 : TellT := t40
noncomputable abbrev tn41 : FuncId → TAn := mkTn base o41 t41
theorem ok41 : TnOk Try.prog tn41 (mkA base) dOk := by
 have h0 : TnOk Try.prog (mkTn base o40 t40) (mkA base) dOk := ok40
 have h1 := tn_orc h0 h0 (p := (29, sv29)) wv29
 exact h1
noncomputable def v10 : Option Bool := (some (true))
theorem ev10 : fnBody Try.prog (mkTn base o41 t41 10) (TM.evF Try.prog (mkTn base o41 t41) dOk 40) dOk 40 10 [] [] = (v10).bind fun r => some ([.sc (.bool (r))], []) := by
 refine Eq.trans (b := (some ([.sc (.bool (true))], []))) (by kernel_rfl) ?_
 unfold v10
 rfl
noncomputable def sv10 : OrcS := fun al H => dE al <| dE H <|  some [(ok (v10), [.sc (.bool ((val (v10))))], [])]
theorem wv10 : NewOrc Try.prog dOk base o41 t41 (10, sv10) := by
 intro al H q hq0 rs H2 h2
 have hq : sv10 al H = some q := hq0
 clear hq0
 unfold sv10 at hq
 obtain ⟨rfl, g1⟩ := dE_some hq
 obtain ⟨rfl, g2⟩ := dE_some g1
 cases g2
 obtain ⟨hc0, rfl, rfl⟩ := pickR_one h2
 exact ⟨41, (fn_eq (by kernel_rfl)).trans ((ev10 ).trans (bind_of (ok_val hc0)))⟩
noncomputable def o42 : OrcT := (10, sv10) :: o41
noncomputable def t42 : TellT := t41
noncomputable abbrev tn42 : FuncId → TAn := mkTn base o42 t42
theorem ok42 : TnOk Try.prog tn42 (mkA base) dOk := by
 have h0 : TnOk Try.prog (mkTn base o41 t41) (mkA base) dOk := ok41
 have h1 := tn_orc h0 h0 (p := (10, sv10)) wv10
 exact h1
noncomputable def L8_100_0 (x0 : Bool) (x1 : Bool) (x2 : (List PKt)) (x3 x4 x5 x6 x7 : Int) (x8 : (List (List (PKt × Int)))) (x9 A B C D E F G I J K L M N O : Int) (P : Bool) (Q : Bool) (R T U V W : Int) (X : (List (List (PKt × Int)))) (Y x33 x34 x35 x36 x37 x38 x39 x40 x41 x42 x43 x44 x45 x46 : Int) (x47 : Bool) (x48 : Bool) : Option Bool := (cond (x0) (cond (x1) (cond (x41 == J && (x42 == K && (x43 == L && (x44 == M && (x45 == N && (x46 == O && (x47 == P && (x48 == Q && true)))))))) (cond ((↑(List.length x2) : Int) == 0) (some (decide (Y > x9))) (some (false))) (some (false))) (some (false))) (some (false)))
noncomputable def xL8_100_0 (x0 : Bool) (x1 : Bool) (x2 : (List PKt)) (x3 x4 x5 x6 x7 : Int) (x8 : (List (List (PKt × Int)))) (x9 A B C D E F G I J K L M N O : Int) (P : Bool) (Q : Bool) (R T U V W : Int) (X : (List (List (PKt × Int)))) (Y x33 x34 x35 x36 x37 x38 x39 x40 x41 x42 x43 x44 x45 x46 : Int) (x47 : Bool) (x48 : Bool) : Bool → Ex × CS := fun r => (.ret, { sl := [(4, .v (.sc (.bool (r))))], lo := [], h := [], n0 := 0, w := true })
theorem bL8_100_0 (k : Nat) (cX : Ex → CS → Option (Ex × CS)) (x0 : Bool) (x1 : Bool) (x2 : (List PKt)) (x3 x4 x5 x6 x7 : Int) (x8 : (List (List (PKt × Int)))) (x9 A B C D E F G I J K L M N O : Int) (P : Bool) (Q : Bool) (R T U V W : Int) (X : (List (List (PKt × Int)))) (Y x33 x34 x35 x36 x37 x38 x39 x40 x41 x42 x43 x44 x45 x46 : Int) (x47 : Bool) (x48 : Bool) : pieceBody Try.prog (mkTn base o42 t42 8) (TM.evF Try.prog (mkTn base o42 t42) dOk (k + 40)) dOk (k + 40) (codeAt Try.prog (tn0 8) 8 100) 0 100 { sl := [(2, .l 2 0), (5, .v (.sc (.bool (x0)))), (6, .l 6 0), (7, .l 7 0), (8, .l 8 0), (9, .v (.sc (.bool (x1)))), (10, .v (.sc (.d 30 PKy (x2))))], lo := [(2, [I4 (x3), I4 (x4), I4 (x5), I4 (x6), I4 (x7), .d 51 (.list 55 QDy) (x8), I4 (x9), I4 (A), I4 (B), I4 (C), I4 (D), I4 (E), I4 (F), I4 (G), .int .u64 (I)]), (6, [I4 (J), I4 (K), I4 (L), I4 (M), I4 (N), I4 (O), .bool (P), .bool (Q)]), (7, [I4 (R), I4 (T), I4 (U), I4 (V), I4 (W), .d 51 (.list 55 QDy) (X), I4 (Y), I4 (x33), I4 (x34), I4 (x35), I4 (x36), I4 (x37), I4 (x38), I4 (x39), .int .u64 (x40)]), (8, [I4 (x41), I4 (x42), I4 (x43), I4 (x44), I4 (x45), I4 (x46), .bool (x47), .bool (x48)])], h := [], n0 := 0, w := false } cX = (cond (x0) (cond (x1) (cond (x41 == J && (x42 == K && (x43 == L && (x44 == M && (x45 == N && (x46 == O && (x47 == P && (x48 == Q && true)))))))) (cond ((↑(List.length x2) : Int) == 0) (cX .ret { sl := [(4, .v (.sc (.bool (decide (Y > x9)))))], lo := [], h := [], n0 := 0, w := true }) (cX .ret { sl := [(4, .v (.sc (.bool (false))))], lo := [], h := [], n0 := 0, w := true })) (cX .ret { sl := [(4, .v (.sc (.bool (false))))], lo := [], h := [], n0 := 0, w := true })) (cX .ret { sl := [(4, .v (.sc (.bool (false))))], lo := [], h := [], n0 := 0, w := true })) (cX .ret { sl := [(4, .v (.sc (.bool (false))))], lo := [], h := [], n0 := 0, w := true })) := by kernel_rfl
theorem lL8_100_0 (k : Nat) (x0 : Bool) (x1 : Bool) (x2 : (List PKt)) (x3 x4 x5 x6 x7 : Int) (x8 : (List (List (PKt × Int)))) (x9 A B C D E F G I J K L M N O : Int) (P : Bool) (Q : Bool) (R T U V W : Int) (X : (List (List (PKt × Int)))) (Y x33 x34 x35 x36 x37 x38 x39 x40 x41 x42 x43 x44 x45 x46 : Int) (x47 : Bool) (x48 : Bool) (r : Bool) : L8_100_0 x0 x1 x2 x3 x4 x5 x6 x7 x8 x9 A B C D E F G I J K L M N O P Q R T U V W X Y x33 x34 x35 x36 x37 x38 x39 x40 x41 x42 x43 x44 x45 x46 x47 x48 = some r → pieceBody Try.prog (mkTn base o42 t42 8) (TM.evF Try.prog (mkTn base o42 t42) dOk (k + 40)) dOk (k + 40) (codeAt Try.prog (tn0 8) 8 100) 0 100 { sl := [(2, .l 2 0), (5, .v (.sc (.bool (x0)))), (6, .l 6 0), (7, .l 7 0), (8, .l 8 0), (9, .v (.sc (.bool (x1)))), (10, .v (.sc (.d 30 PKy (x2))))], lo := [(2, [I4 (x3), I4 (x4), I4 (x5), I4 (x6), I4 (x7), .d 51 (.list 55 QDy) (x8), I4 (x9), I4 (A), I4 (B), I4 (C), I4 (D), I4 (E), I4 (F), I4 (G), .int .u64 (I)]), (6, [I4 (J), I4 (K), I4 (L), I4 (M), I4 (N), I4 (O), .bool (P), .bool (Q)]), (7, [I4 (R), I4 (T), I4 (U), I4 (V), I4 (W), .d 51 (.list 55 QDy) (X), I4 (Y), I4 (x33), I4 (x34), I4 (x35), I4 (x36), I4 (x37), I4 (x38), I4 (x39), .int .u64 (x40)]), (8, [I4 (x41), I4 (x42), I4 (x43), I4 (x44), I4 (x45), I4 (x46), .bool (x47), .bool (x48)])], h := [], n0 := 0, w := false } (fun e s => some (e, s)) = some (xL8_100_0 x0 x1 x2 x3 x4 x5 x6 x7 x8 x9 A B C D E F G I J K L M N O P Q R T U V W X Y x33 x34 x35 x36 x37 x38 x39 x40 x41 x42 x43 x44 x45 x46 x47 x48 r) := by
 rw [bL8_100_0]
 unfold L8_100_0
 refine cond_go ?_ ?_
 refine cond_go ?_ ?_
 refine cond_go ?_ ?_
 refine cond_go ?_ ?_
 intro h; cases h; rfl
 intro h; cases h; rfl
 intro h; cases h; rfl
 intro h; cases h; rfl
 intro h; cases h; rfl
noncomputable def sL8_100_0 : TellS := fun S => dCS 0 S fun y1 y2 y3 => dSt 2 y1 fun y5 l4 => dL 2 0 y5 <| dSs 5 l4 fun y7 l6 => dBool y7 fun x0 => dSt 6 l6 fun y9 l8 => dL 6 0 y9 <| dSt 7 l8 fun y11 l10 => dL 7 0 y11 <| dSt 8 l10 fun y13 l12 => dL 8 0 y13 <| dSs 9 l12 fun y15 l14 => dBool y15 fun x1 => dSs 10 l14 fun y17 l16 => dD 30 PKy y17 fun x2 => dE l16 <| dLo 2 y2 fun y18 l19 => dCI .i64 y18 fun x3 l20 => dCI .i64 l20 fun x4 l21 => dCI .i64 l21 fun x5 l22 => dCI .i64 l22 fun x6 l23 => dCI .i64 l23 fun x7 l24 => dC l24 fun y25 l26 => dD 51 (.list 55 QDy) y25 fun x8 => dCI .i64 l26 fun x9 l27 => dCI .i64 l27 fun A l28 => dCI .i64 l28 fun B l29 => dCI .i64 l29 fun C l30 => dCI .i64 l30 fun D l31 => dCI .i64 l31 fun E l32 => dCI .i64 l32 fun F l33 => dCI .i64 l33 fun G l34 => dCI .u64 l34 fun I l35 => dE l35 <| dLo 6 l19 fun y36 l37 => dCI .i64 y36 fun J l38 => dCI .i64 l38 fun K l39 => dCI .i64 l39 fun L l40 => dCI .i64 l40 fun M l41 => dCI .i64 l41 fun N l42 => dCI .i64 l42 fun O l43 => dC l43 fun y44 l45 => dBool y44 fun P => dC l45 fun y46 l47 => dBool y46 fun Q => dE l47 <| dLo 7 l37 fun y48 l49 => dCI .i64 y48 fun R l50 => dCI .i64 l50 fun T l51 => dCI .i64 l51 fun U l52 => dCI .i64 l52 fun V l53 => dCI .i64 l53 fun W l54 => dC l54 fun y55 l56 => dD 51 (.list 55 QDy) y55 fun X => dCI .i64 l56 fun Y l57 => dCI .i64 l57 fun x33 l58 => dCI .i64 l58 fun x34 l59 => dCI .i64 l59 fun x35 l60 => dCI .i64 l60 fun x36 l61 => dCI .i64 l61 fun x37 l62 => dCI .i64 l62 fun x38 l63 => dCI .i64 l63 fun x39 l64 => dCI .u64 l64 fun x40 l65 => dE l65 <| dLo 8 l49 fun y66 l67 => dCI .i64 y66 fun x41 l68 => dCI .i64 l68 fun x42 l69 => dCI .i64 l69 fun x43 l70 => dCI .i64 l70 fun x44 l71 => dCI .i64 l71 fun x45 l72 => dCI .i64 l72 fun x46 l73 => dC l73 fun y74 l75 => dBool y74 fun x47 => dC l75 fun y76 l77 => dBool y76 fun x48 => dE l77 <| dE l67 <| dE y3 <|  some [(ok (L8_100_0 x0 x1 x2 x3 x4 x5 x6 x7 x8 x9 A B C D E F G I J K L M N O P Q R T U V W X Y x33 x34 x35 x36 x37 x38 x39 x40 x41 x42 x43 x44 x45 x46 x47 x48), .ret, { sl := [(4, .v (.sc (.bool ((val (L8_100_0 x0 x1 x2 x3 x4 x5 x6 x7 x8 x9 A B C D E F G I J K L M N O P Q R T U V W X Y x33 x34 x35 x36 x37 x38 x39 x40 x41 x42 x43 x44 x45 x46 x47 x48))))))], lo := [], h := [], n0 := 0, w := true })]
theorem wL8_100_0 : NewTell Try.prog dOk base o42 t42 ((8, 100), sL8_100_0) := by
 refine ⟨(codeAt Try.prog (tn0 8) 8 100), 0, by kernel_rfl, ?_⟩
 intro S alts e S' h10 h2
 have h1 : sL8_100_0 S = some alts := h10
 clear h10
 unfold sL8_100_0 at h1
 replace h1 := dCS_some h1; obtain ⟨_, _, _, rfl, h1⟩ := h1
 replace h1 := dSt_some h1; obtain ⟨_, _, rfl, h1⟩ := h1
 replace h1 := dL_some h1; obtain ⟨rfl, h1⟩ := h1
 replace h1 := dSs_some h1; obtain ⟨_, _, rfl, h1⟩ := h1
 replace h1 := dBool_some h1; obtain ⟨_, rfl, h1⟩ := h1
 replace h1 := dSt_some h1; obtain ⟨_, _, rfl, h1⟩ := h1
 replace h1 := dL_some h1; obtain ⟨rfl, h1⟩ := h1
 replace h1 := dSt_some h1; obtain ⟨_, _, rfl, h1⟩ := h1
 replace h1 := dL_some h1; obtain ⟨rfl, h1⟩ := h1
 replace h1 := dSt_some h1; obtain ⟨_, _, rfl, h1⟩ := h1
 replace h1 := dL_some h1; obtain ⟨rfl, h1⟩ := h1
 replace h1 := dSs_some h1; obtain ⟨_, _, rfl, h1⟩ := h1
 replace h1 := dBool_some h1; obtain ⟨_, rfl, h1⟩ := h1
 replace h1 := dSs_some h1; obtain ⟨_, _, rfl, h1⟩ := h1
 replace h1 := dD_some h1; obtain ⟨_, rfl, h1⟩ := h1
 replace h1 := dE_some h1; obtain ⟨rfl, h1⟩ := h1
 replace h1 := dLo_some h1; obtain ⟨_, _, rfl, h1⟩ := h1
 replace h1 := dJ5 h1; obtain ⟨_, _, _, _, _, _, rfl, h1⟩ := h1
 replace h1 := dC_some h1; obtain ⟨_, _, rfl, h1⟩ := h1
 replace h1 := dD_some h1; obtain ⟨_, rfl, h1⟩ := h1
 replace h1 := dJ9 h1; obtain ⟨_, _, _, _, _, _, _, _, _, _, rfl, h1⟩ := h1
 replace h1 := dE_some h1; obtain ⟨rfl, h1⟩ := h1
 replace h1 := dLo_some h1; obtain ⟨_, _, rfl, h1⟩ := h1
 replace h1 := dJ6 h1; obtain ⟨_, _, _, _, _, _, _, rfl, h1⟩ := h1
 replace h1 := dC_some h1; obtain ⟨_, _, rfl, h1⟩ := h1
 replace h1 := dBool_some h1; obtain ⟨_, rfl, h1⟩ := h1
 replace h1 := dC_some h1; obtain ⟨_, _, rfl, h1⟩ := h1
 replace h1 := dBool_some h1; obtain ⟨_, rfl, h1⟩ := h1
 replace h1 := dE_some h1; obtain ⟨rfl, h1⟩ := h1
 replace h1 := dLo_some h1; obtain ⟨_, _, rfl, h1⟩ := h1
 replace h1 := dJ5 h1; obtain ⟨_, _, _, _, _, _, rfl, h1⟩ := h1
 replace h1 := dC_some h1; obtain ⟨_, _, rfl, h1⟩ := h1
 replace h1 := dD_some h1; obtain ⟨_, rfl, h1⟩ := h1
 replace h1 := dJ9 h1; obtain ⟨_, _, _, _, _, _, _, _, _, _, rfl, h1⟩ := h1
 replace h1 := dE_some h1; obtain ⟨rfl, h1⟩ := h1
 replace h1 := dLo_some h1; obtain ⟨_, _, rfl, h1⟩ := h1
 replace h1 := dJ6 h1; obtain ⟨_, _, _, _, _, _, _, rfl, h1⟩ := h1
 replace h1 := dC_some h1; obtain ⟨_, _, rfl, h1⟩ := h1
 replace h1 := dBool_some h1; obtain ⟨_, rfl, h1⟩ := h1
 replace h1 := dC_some h1; obtain ⟨_, _, rfl, h1⟩ := h1
 replace h1 := dBool_some h1; obtain ⟨_, rfl, h1⟩ := h1
 replace h1 := dE_some h1; obtain ⟨rfl, h1⟩ := h1
 replace h1 := dE_some h1; obtain ⟨rfl, h1⟩ := h1
 replace h1 := dE_some h1; obtain ⟨rfl, h1⟩ := h1
 cases h1
 obtain ⟨hc0, rfl, rfl⟩ := pick_one h2
 exact ⟨0 + 40, (evPiece_code rfl).trans (lL8_100_0 0 _ _ _ _ _ _ _ _ _ _ _ _ _ _ _ _ _ _ _ _ _ _ _ _ _ _ _ _ _ _ _ _ _ _ _ _ _ _ _ _ _ _ _ _ _ _ _ _ _ _ (ok_val hc0))⟩
noncomputable def L8_108_0 (x0 : Bool) (x1 : (List PKt)) (x2 x3 x4 x5 x6 : Int) (x7 : (List (List (PKt × Int)))) (x8 x9 A B C D E F G I J K L M N : Int) (O : Bool) (P : Bool) (Q R T U V : Int) (W : (List (List (PKt × Int)))) (X Y x33 x34 x35 x36 x37 x38 x39 : Int) : Option Bool := (cond (x0) (cond (decide ((↑(List.length x1) : Int) ≥ (1 : Int))) (cond (decide (0 < (↑(List.length x1) : Int))) (cond ((List.getD x1 (Int.toNat 0) PKz).1 == I && ((List.getD x1 (Int.toNat 0) PKz).2.1 == J && ((List.getD x1 (Int.toNat 0) PKz).2.2.1 == K && ((List.getD x1 (Int.toNat 0) PKz).2.2.2.1 == L && ((List.getD x1 (Int.toNat 0) PKz).2.2.2.2.1 == M && ((List.getD x1 (Int.toNat 0) PKz).2.2.2.2.2.1 == N && ((List.getD x1 (Int.toNat 0) PKz).2.2.2.2.2.2.1 == O && ((List.getD x1 (Int.toNat 0) PKz).2.2.2.2.2.2.2 == P && true)))))))) (cond (X == 0) (some (true)) (some (decide (X > x8)))) (some (false))) none) (some (false))) (some (false)))
noncomputable def xL8_108_0 (x0 : Bool) (x1 : (List PKt)) (x2 x3 x4 x5 x6 : Int) (x7 : (List (List (PKt × Int)))) (x8 x9 A B C D E F G I J K L M N : Int) (O : Bool) (P : Bool) (Q R T U V : Int) (W : (List (List (PKt × Int)))) (X Y x33 x34 x35 x36 x37 x38 x39 : Int) : Bool → Ex × CS := fun r => (.ret, { sl := [(4, .v (.sc (.bool (r))))], lo := [], h := [], n0 := 0, w := true })
theorem bL8_108_0 (k : Nat) (cX : Ex → CS → Option (Ex × CS)) (x0 : Bool) (x1 : (List PKt)) (x2 x3 x4 x5 x6 : Int) (x7 : (List (List (PKt × Int)))) (x8 x9 A B C D E F G I J K L M N : Int) (O : Bool) (P : Bool) (Q R T U V : Int) (W : (List (List (PKt × Int)))) (X Y x33 x34 x35 x36 x37 x38 x39 : Int) : pieceBody Try.prog (mkTn base o42 t42 8) (TM.evF Try.prog (mkTn base o42 t42) dOk (k + 40)) dOk (k + 40) (codeAt Try.prog (tn0 8) 8 108) 0 108 { sl := [(2, .l 2 0), (5, .v (.sc (.bool (x0)))), (6, .l 6 0), (7, .l 7 0), (8, .l 8 0), (10, .v (.sc (.d 30 PKy (x1))))], lo := [(2, [I4 (x2), I4 (x3), I4 (x4), I4 (x5), I4 (x6), .d 51 (.list 55 QDy) (x7), I4 (x8), I4 (x9), I4 (A), I4 (B), I4 (C), I4 (D), I4 (E), I4 (F), .int .u64 (G)]), (6, [I4 (I), I4 (J), I4 (K), I4 (L), I4 (M), I4 (N), .bool (O), .bool (P)]), (7, [I4 (Q), I4 (R), I4 (T), I4 (U), I4 (V), .d 51 (.list 55 QDy) (W), I4 (X), I4 (Y), I4 (x33), I4 (x34), I4 (x35), I4 (x36), I4 (x37), I4 (x38), .int .u64 (x39)])], h := [], n0 := 0, w := false } cX = (cond (x0) (cond (decide ((↑(List.length x1) : Int) ≥ (1 : Int))) (cond (decide (0 < (↑(List.length x1) : Int))) (cond ((List.getD x1 (Int.toNat 0) PKz).1 == I && ((List.getD x1 (Int.toNat 0) PKz).2.1 == J && ((List.getD x1 (Int.toNat 0) PKz).2.2.1 == K && ((List.getD x1 (Int.toNat 0) PKz).2.2.2.1 == L && ((List.getD x1 (Int.toNat 0) PKz).2.2.2.2.1 == M && ((List.getD x1 (Int.toNat 0) PKz).2.2.2.2.2.1 == N && ((List.getD x1 (Int.toNat 0) PKz).2.2.2.2.2.2.1 == O && ((List.getD x1 (Int.toNat 0) PKz).2.2.2.2.2.2.2 == P && true)))))))) (cond (X == 0) (cX .ret { sl := [(4, .v (.sc (.bool (true))))], lo := [], h := [], n0 := 0, w := true }) (cX .ret { sl := [(4, .v (.sc (.bool (decide (X > x8)))))], lo := [], h := [], n0 := 0, w := true })) (cX .ret { sl := [(4, .v (.sc (.bool (false))))], lo := [], h := [], n0 := 0, w := true })) none) (cX .ret { sl := [(4, .v (.sc (.bool (false))))], lo := [], h := [], n0 := 0, w := true })) (cX .ret { sl := [(4, .v (.sc (.bool (false))))], lo := [], h := [], n0 := 0, w := true })) := by kernel_rfl
theorem lL8_108_0 (k : Nat) (x0 : Bool) (x1 : (List PKt)) (x2 x3 x4 x5 x6 : Int) (x7 : (List (List (PKt × Int)))) (x8 x9 A B C D E F G I J K L M N : Int) (O : Bool) (P : Bool) (Q R T U V : Int) (W : (List (List (PKt × Int)))) (X Y x33 x34 x35 x36 x37 x38 x39 : Int) (r : Bool) : L8_108_0 x0 x1 x2 x3 x4 x5 x6 x7 x8 x9 A B C D E F G I J K L M N O P Q R T U V W X Y x33 x34 x35 x36 x37 x38 x39 = some r → pieceBody Try.prog (mkTn base o42 t42 8) (TM.evF Try.prog (mkTn base o42 t42) dOk (k + 40)) dOk (k + 40) (codeAt Try.prog (tn0 8) 8 108) 0 108 { sl := [(2, .l 2 0), (5, .v (.sc (.bool (x0)))), (6, .l 6 0), (7, .l 7 0), (8, .l 8 0), (10, .v (.sc (.d 30 PKy (x1))))], lo := [(2, [I4 (x2), I4 (x3), I4 (x4), I4 (x5), I4 (x6), .d 51 (.list 55 QDy) (x7), I4 (x8), I4 (x9), I4 (A), I4 (B), I4 (C), I4 (D), I4 (E), I4 (F), .int .u64 (G)]), (6, [I4 (I), I4 (J), I4 (K), I4 (L), I4 (M), I4 (N), .bool (O), .bool (P)]), (7, [I4 (Q), I4 (R), I4 (T), I4 (U), I4 (V), .d 51 (.list 55 QDy) (W), I4 (X), I4 (Y), I4 (x33), I4 (x34), I4 (x35), I4 (x36), I4 (x37), I4 (x38), .int .u64 (x39)])], h := [], n0 := 0, w := false } (fun e s => some (e, s)) = some (xL8_108_0 x0 x1 x2 x3 x4 x5 x6 x7 x8 x9 A B C D E F G I J K L M N O P Q R T U V W X Y x33 x34 x35 x36 x37 x38 x39 r) := by
 rw [bL8_108_0]
 unfold L8_108_0
 refine cond_go ?_ ?_
 refine cond_go ?_ ?_
 refine cond_go ?_ ?_
 refine cond_go ?_ ?_
 refine cond_go ?_ ?_
 intro h; cases h; rfl
 intro h; cases h; rfl
 intro h; cases h; rfl
 intro h; cases h
 intro h; cases h; rfl
 intro h; cases h; rfl
noncomputable def sL8_108_0 : TellS := fun S => dCS 0 S fun y1 y2 y3 => dSt 2 y1 fun y5 l4 => dL 2 0 y5 <| dSs 5 l4 fun y7 l6 => dBool y7 fun x0 => dSt 6 l6 fun y9 l8 => dL 6 0 y9 <| dSt 7 l8 fun y11 l10 => dL 7 0 y11 <| dSt 8 l10 fun y13 l12 => dL 8 0 y13 <| dSs 10 l12 fun y15 l14 => dD 30 PKy y15 fun x1 => dE l14 <| dLo 2 y2 fun y16 l17 => dCI .i64 y16 fun x2 l18 => dCI .i64 l18 fun x3 l19 => dCI .i64 l19 fun x4 l20 => dCI .i64 l20 fun x5 l21 => dCI .i64 l21 fun x6 l22 => dC l22 fun y23 l24 => dD 51 (.list 55 QDy) y23 fun x7 => dCI .i64 l24 fun x8 l25 => dCI .i64 l25 fun x9 l26 => dCI .i64 l26 fun A l27 => dCI .i64 l27 fun B l28 => dCI .i64 l28 fun C l29 => dCI .i64 l29 fun D l30 => dCI .i64 l30 fun E l31 => dCI .i64 l31 fun F l32 => dCI .u64 l32 fun G l33 => dE l33 <| dLo 6 l17 fun y34 l35 => dCI .i64 y34 fun I l36 => dCI .i64 l36 fun J l37 => dCI .i64 l37 fun K l38 => dCI .i64 l38 fun L l39 => dCI .i64 l39 fun M l40 => dCI .i64 l40 fun N l41 => dC l41 fun y42 l43 => dBool y42 fun O => dC l43 fun y44 l45 => dBool y44 fun P => dE l45 <| dLo 7 l35 fun y46 l47 => dCI .i64 y46 fun Q l48 => dCI .i64 l48 fun R l49 => dCI .i64 l49 fun T l50 => dCI .i64 l50 fun U l51 => dCI .i64 l51 fun V l52 => dC l52 fun y53 l54 => dD 51 (.list 55 QDy) y53 fun W => dCI .i64 l54 fun X l55 => dCI .i64 l55 fun Y l56 => dCI .i64 l56 fun x33 l57 => dCI .i64 l57 fun x34 l58 => dCI .i64 l58 fun x35 l59 => dCI .i64 l59 fun x36 l60 => dCI .i64 l60 fun x37 l61 => dCI .i64 l61 fun x38 l62 => dCI .u64 l62 fun x39 l63 => dE l63 <| dE l47 <| dE y3 <|  some [(ok (L8_108_0 x0 x1 x2 x3 x4 x5 x6 x7 x8 x9 A B C D E F G I J K L M N O P Q R T U V W X Y x33 x34 x35 x36 x37 x38 x39), .ret, { sl := [(4, .v (.sc (.bool ((val (L8_108_0 x0 x1 x2 x3 x4 x5 x6 x7 x8 x9 A B C D E F G I J K L M N O P Q R T U V W X Y x33 x34 x35 x36 x37 x38 x39))))))], lo := [], h := [], n0 := 0, w := true })]
theorem wL8_108_0 : NewTell Try.prog dOk base o42 t42 ((8, 108), sL8_108_0) := by
 refine ⟨(codeAt Try.prog (tn0 8) 8 108), 0, by kernel_rfl, ?_⟩
 intro S alts e S' h10 h2
 have h1 : sL8_108_0 S = some alts := h10
 clear h10
 unfold sL8_108_0 at h1
 replace h1 := dCS_some h1; obtain ⟨_, _, _, rfl, h1⟩ := h1
 replace h1 := dSt_some h1; obtain ⟨_, _, rfl, h1⟩ := h1
 replace h1 := dL_some h1; obtain ⟨rfl, h1⟩ := h1
 replace h1 := dSs_some h1; obtain ⟨_, _, rfl, h1⟩ := h1
 replace h1 := dBool_some h1; obtain ⟨_, rfl, h1⟩ := h1
 replace h1 := dSt_some h1; obtain ⟨_, _, rfl, h1⟩ := h1
 replace h1 := dL_some h1; obtain ⟨rfl, h1⟩ := h1
 replace h1 := dSt_some h1; obtain ⟨_, _, rfl, h1⟩ := h1
 replace h1 := dL_some h1; obtain ⟨rfl, h1⟩ := h1
 replace h1 := dSt_some h1; obtain ⟨_, _, rfl, h1⟩ := h1
 replace h1 := dL_some h1; obtain ⟨rfl, h1⟩ := h1
 replace h1 := dSs_some h1; obtain ⟨_, _, rfl, h1⟩ := h1
 replace h1 := dD_some h1; obtain ⟨_, rfl, h1⟩ := h1
 replace h1 := dE_some h1; obtain ⟨rfl, h1⟩ := h1
 replace h1 := dLo_some h1; obtain ⟨_, _, rfl, h1⟩ := h1
 replace h1 := dJ5 h1; obtain ⟨_, _, _, _, _, _, rfl, h1⟩ := h1
 replace h1 := dC_some h1; obtain ⟨_, _, rfl, h1⟩ := h1
 replace h1 := dD_some h1; obtain ⟨_, rfl, h1⟩ := h1
 replace h1 := dJ9 h1; obtain ⟨_, _, _, _, _, _, _, _, _, _, rfl, h1⟩ := h1
 replace h1 := dE_some h1; obtain ⟨rfl, h1⟩ := h1
 replace h1 := dLo_some h1; obtain ⟨_, _, rfl, h1⟩ := h1
 replace h1 := dJ6 h1; obtain ⟨_, _, _, _, _, _, _, rfl, h1⟩ := h1
 replace h1 := dC_some h1; obtain ⟨_, _, rfl, h1⟩ := h1
 replace h1 := dBool_some h1; obtain ⟨_, rfl, h1⟩ := h1
 replace h1 := dC_some h1; obtain ⟨_, _, rfl, h1⟩ := h1
 replace h1 := dBool_some h1; obtain ⟨_, rfl, h1⟩ := h1
 replace h1 := dE_some h1; obtain ⟨rfl, h1⟩ := h1
 replace h1 := dLo_some h1; obtain ⟨_, _, rfl, h1⟩ := h1
 replace h1 := dJ5 h1; obtain ⟨_, _, _, _, _, _, rfl, h1⟩ := h1
 replace h1 := dC_some h1; obtain ⟨_, _, rfl, h1⟩ := h1
 replace h1 := dD_some h1; obtain ⟨_, rfl, h1⟩ := h1
 replace h1 := dJ9 h1; obtain ⟨_, _, _, _, _, _, _, _, _, _, rfl, h1⟩ := h1
 replace h1 := dE_some h1; obtain ⟨rfl, h1⟩ := h1
 replace h1 := dE_some h1; obtain ⟨rfl, h1⟩ := h1
 replace h1 := dE_some h1; obtain ⟨rfl, h1⟩ := h1
 cases h1
 obtain ⟨hc0, rfl, rfl⟩ := pick_one h2
 exact ⟨0 + 40, (evPiece_code rfl).trans (lL8_108_0 0 _ _ _ _ _ _ _ _ _ _ _ _ _ _ _ _ _ _ _ _ _ _ _ _ _ _ _ _ _ _ _ _ _ _ _ _ _ _ _ _ _ (ok_val hc0))⟩
noncomputable def o43 : OrcT := o42
noncomputable def t43 : TellT := ((8, 100), sL8_100_0) :: ((8, 108), sL8_108_0) :: t42
noncomputable abbrev tn43 : FuncId → TAn := mkTn base o43 t43
theorem ok43 : TnOk Try.prog tn43 (mkA base) dOk := by
 have h0 : TnOk Try.prog (mkTn base o42 t42) (mkA base) dOk := ok42
 have h1 := tn_tell h0 h0 (p := ((8, 108), sL8_108_0)) wL8_108_0
 have h2 := tn_tell h0 h1 (p := ((8, 100), sL8_100_0)) wL8_100_0
 exact h2
noncomputable def L8_68_0 (x0 : Int) (x1 : Bool) (x2 : Bool) (x3 : (List PKt)) (x4 x5 x6 x7 x8 : Int) (x9 : (List (List (PKt × Int)))) (A B C D E F G I J K L M N O P : Int) (Q : Bool) (R : Bool) (T U V W X : Int) (Y : (List (List (PKt × Int)))) (x33 x34 x35 x36 x37 x38 x39 x40 x41 x42 x43 x44 x45 x46 x47 : Int) (x48 : Bool) (x49 : Bool) : Option Bool := (cond (A == 0) (cond (x1) (cond (x2) (cond (x42 == K && (x43 == L && (x44 == M && (x45 == N && (x46 == O && (x47 == P && (x48 == Q && (x49 == R && true)))))))) (cond ((↑(List.length x3) : Int) == 0) (cond (x34 == B) (cond (A == x33) (some (true)) (some (x33 == IntKind.wrap IntKind.i64 (IntKind.wrap IntKind.i64 (x0 + x6) + (1 : Int))))) (some (false))) (some (false))) (some (false))) (some (false))) (some (false))) (cond (decide (x0 < IntKind.wrap IntKind.i64 (A - (1 : Int)))) (cond (x1) (cond (x2) (cond (x42 == K && (x43 == L && (x44 == M && (x45 == N && (x46 == O && (x47 == P && (x48 == Q && (x49 == R && true)))))))) (cond ((↑(List.length x3) : Int) == 0) (cond (x34 == B) (cond (A == x33) (some (true)) (some (false))) (some (false))) (some (false))) (some (false))) (some (false))) (some (false))) (cond (Q) (cond (ok (L8_100_0 x1 x2 x3 x4 x5 x6 x7 x8 x9 A B C D E F G I J K L M N O P Q true T U V W X Y x33 x34 x35 x36 x37 x38 x39 x40 x41 x42 x43 x44 x45 x46 x47 x48 x49)) (some (val (L8_100_0 x1 x2 x3 x4 x5 x6 x7 x8 x9 A B C D E F G I J K L M N O P Q true T U V W X Y x33 x34 x35 x36 x37 x38 x39 x40 x41 x42 x43 x44 x45 x46 x47 x48 x49))) none) (cond (ok (L8_108_0 x1 x3 x4 x5 x6 x7 x8 x9 A B C D E F G I J K L M N O P Q R T U V W X Y x33 x34 x35 x36 x37 x38 x39 x40 x41)) (some (val (L8_108_0 x1 x3 x4 x5 x6 x7 x8 x9 A B C D E F G I J K L M N O P Q R T U V W X Y x33 x34 x35 x36 x37 x38 x39 x40 x41))) none))))
noncomputable def xL8_68_0 (x0 : Int) (x1 : Bool) (x2 : Bool) (x3 : (List PKt)) (x4 x5 x6 x7 x8 : Int) (x9 : (List (List (PKt × Int)))) (A B C D E F G I J K L M N O P : Int) (Q : Bool) (R : Bool) (T U V W X : Int) (Y : (List (List (PKt × Int)))) (x33 x34 x35 x36 x37 x38 x39 x40 x41 x42 x43 x44 x45 x46 x47 : Int) (x48 : Bool) (x49 : Bool) : Bool → Ex × CS := fun r => (.ret, { sl := [(4, .v (.sc (.bool (r))))], lo := [], h := [], n0 := 0, w := true })
theorem bL8_68_0 (k : Nat) (cX : Ex → CS → Option (Ex × CS)) (x0 : Int) (x1 : Bool) (x2 : Bool) (x3 : (List PKt)) (x4 x5 x6 x7 x8 : Int) (x9 : (List (List (PKt × Int)))) (A B C D E F G I J K L M N O P : Int) (Q : Bool) (R : Bool) (T U V W X : Int) (Y : (List (List (PKt × Int)))) (x33 x34 x35 x36 x37 x38 x39 x40 x41 x42 x43 x44 x45 x46 x47 : Int) (x48 : Bool) (x49 : Bool) : pieceBody Try.prog (mkTn base o43 t43 8) (TM.evF Try.prog (mkTn base o43 t43) dOk (k + 40)) dOk (k + 40) (codeAt Try.prog (tn0 8) 8 68) 0 68 { sl := [(1, .v (.sc (I4 (x0)))), (2, .l 2 0), (5, .v (.sc (.bool (x1)))), (6, .l 6 0), (7, .l 7 0), (8, .l 8 0), (9, .v (.sc (.bool (x2)))), (10, .v (.sc (.d 30 PKy (x3))))], lo := [(2, [I4 (x4), I4 (x5), I4 (x6), I4 (x7), I4 (x8), .d 51 (.list 55 QDy) (x9), I4 (A), I4 (B), I4 (C), I4 (D), I4 (E), I4 (F), I4 (G), I4 (I), .int .u64 (J)]), (6, [I4 (K), I4 (L), I4 (M), I4 (N), I4 (O), I4 (P), .bool (Q), .bool (R)]), (7, [I4 (T), I4 (U), I4 (V), I4 (W), I4 (X), .d 51 (.list 55 QDy) (Y), I4 (x33), I4 (x34), I4 (x35), I4 (x36), I4 (x37), I4 (x38), I4 (x39), I4 (x40), .int .u64 (x41)]), (8, [I4 (x42), I4 (x43), I4 (x44), I4 (x45), I4 (x46), I4 (x47), .bool (x48), .bool (x49)])], h := [], n0 := 0, w := false } cX = (cond (A == 0) (cond (x1) (cond (x2) (cond (x42 == K && (x43 == L && (x44 == M && (x45 == N && (x46 == O && (x47 == P && (x48 == Q && (x49 == R && true)))))))) (cond ((↑(List.length x3) : Int) == 0) (cond (x34 == B) (cond (A == x33) (cX .ret { sl := [(4, .v (.sc (.bool (true))))], lo := [], h := [], n0 := 0, w := true }) (cond (A == 0) (cX .ret { sl := [(4, .v (.sc (.bool (x33 == IntKind.wrap IntKind.i64 (IntKind.wrap IntKind.i64 (x0 + x6) + (1 : Int))))))], lo := [], h := [], n0 := 0, w := true }) (cX .ret { sl := [(4, .v (.sc (.bool (false))))], lo := [], h := [], n0 := 0, w := true }))) (cX .ret { sl := [(4, .v (.sc (.bool (false))))], lo := [], h := [], n0 := 0, w := true })) (cX .ret { sl := [(4, .v (.sc (.bool (false))))], lo := [], h := [], n0 := 0, w := true })) (cX .ret { sl := [(4, .v (.sc (.bool (false))))], lo := [], h := [], n0 := 0, w := true })) (cX .ret { sl := [(4, .v (.sc (.bool (false))))], lo := [], h := [], n0 := 0, w := true })) (cX .ret { sl := [(4, .v (.sc (.bool (false))))], lo := [], h := [], n0 := 0, w := true })) (cond (decide (x0 < IntKind.wrap IntKind.i64 (A - (1 : Int)))) (cond (x1) (cond (x2) (cond (x42 == K && (x43 == L && (x44 == M && (x45 == N && (x46 == O && (x47 == P && (x48 == Q && (x49 == R && true)))))))) (cond ((↑(List.length x3) : Int) == 0) (cond (x34 == B) (cond (A == x33) (cX .ret { sl := [(4, .v (.sc (.bool (true))))], lo := [], h := [], n0 := 0, w := true }) (cond (A == 0) (cX .ret { sl := [(4, .v (.sc (.bool (x33 == IntKind.wrap IntKind.i64 (IntKind.wrap IntKind.i64 (x0 + x6) + (1 : Int))))))], lo := [], h := [], n0 := 0, w := true }) (cX .ret { sl := [(4, .v (.sc (.bool (false))))], lo := [], h := [], n0 := 0, w := true }))) (cX .ret { sl := [(4, .v (.sc (.bool (false))))], lo := [], h := [], n0 := 0, w := true })) (cX .ret { sl := [(4, .v (.sc (.bool (false))))], lo := [], h := [], n0 := 0, w := true })) (cX .ret { sl := [(4, .v (.sc (.bool (false))))], lo := [], h := [], n0 := 0, w := true })) (cX .ret { sl := [(4, .v (.sc (.bool (false))))], lo := [], h := [], n0 := 0, w := true })) (cX .ret { sl := [(4, .v (.sc (.bool (false))))], lo := [], h := [], n0 := 0, w := true })) (cond (Q) (cond (ok (L8_100_0 x1 x2 x3 x4 x5 x6 x7 x8 x9 A B C D E F G I J K L M N O P Q true T U V W X Y x33 x34 x35 x36 x37 x38 x39 x40 x41 x42 x43 x44 x45 x46 x47 x48 x49)) (cX .ret { sl := [(4, .v (.sc (.bool (val (L8_100_0 x1 x2 x3 x4 x5 x6 x7 x8 x9 A B C D E F G I J K L M N O P Q true T U V W X Y x33 x34 x35 x36 x37 x38 x39 x40 x41 x42 x43 x44 x45 x46 x47 x48 x49)))))], lo := [], h := [], n0 := 0, w := true }) none) (cond (ok (L8_108_0 x1 x3 x4 x5 x6 x7 x8 x9 A B C D E F G I J K L M N O P Q R T U V W X Y x33 x34 x35 x36 x37 x38 x39 x40 x41)) (cX .ret { sl := [(4, .v (.sc (.bool (val (L8_108_0 x1 x3 x4 x5 x6 x7 x8 x9 A B C D E F G I J K L M N O P Q R T U V W X Y x33 x34 x35 x36 x37 x38 x39 x40 x41)))))], lo := [], h := [], n0 := 0, w := true }) none)))) := by kernel_rfl
theorem lL8_68_0 (k : Nat) (x0 : Int) (x1 : Bool) (x2 : Bool) (x3 : (List PKt)) (x4 x5 x6 x7 x8 : Int) (x9 : (List (List (PKt × Int)))) (A B C D E F G I J K L M N O P : Int) (Q : Bool) (R : Bool) (T U V W X : Int) (Y : (List (List (PKt × Int)))) (x33 x34 x35 x36 x37 x38 x39 x40 x41 x42 x43 x44 x45 x46 x47 : Int) (x48 : Bool) (x49 : Bool) (r : Bool) : L8_68_0 x0 x1 x2 x3 x4 x5 x6 x7 x8 x9 A B C D E F G I J K L M N O P Q R T U V W X Y x33 x34 x35 x36 x37 x38 x39 x40 x41 x42 x43 x44 x45 x46 x47 x48 x49 = some r → pieceBody Try.prog (mkTn base o43 t43 8) (TM.evF Try.prog (mkTn base o43 t43) dOk (k + 40)) dOk (k + 40) (codeAt Try.prog (tn0 8) 8 68) 0 68 { sl := [(1, .v (.sc (I4 (x0)))), (2, .l 2 0), (5, .v (.sc (.bool (x1)))), (6, .l 6 0), (7, .l 7 0), (8, .l 8 0), (9, .v (.sc (.bool (x2)))), (10, .v (.sc (.d 30 PKy (x3))))], lo := [(2, [I4 (x4), I4 (x5), I4 (x6), I4 (x7), I4 (x8), .d 51 (.list 55 QDy) (x9), I4 (A), I4 (B), I4 (C), I4 (D), I4 (E), I4 (F), I4 (G), I4 (I), .int .u64 (J)]), (6, [I4 (K), I4 (L), I4 (M), I4 (N), I4 (O), I4 (P), .bool (Q), .bool (R)]), (7, [I4 (T), I4 (U), I4 (V), I4 (W), I4 (X), .d 51 (.list 55 QDy) (Y), I4 (x33), I4 (x34), I4 (x35), I4 (x36), I4 (x37), I4 (x38), I4 (x39), I4 (x40), .int .u64 (x41)]), (8, [I4 (x42), I4 (x43), I4 (x44), I4 (x45), I4 (x46), I4 (x47), .bool (x48), .bool (x49)])], h := [], n0 := 0, w := false } (fun e s => some (e, s)) = some (xL8_68_0 x0 x1 x2 x3 x4 x5 x6 x7 x8 x9 A B C D E F G I J K L M N O P Q R T U V W X Y x33 x34 x35 x36 x37 x38 x39 x40 x41 x42 x43 x44 x45 x46 x47 x48 x49 r) := by
 rw [bL8_68_0]
 unfold L8_68_0
 cases (A == 0) with
 | true =>
  cases x1 with
  | true =>
   cases x2 with
   | true =>
    cases (x42 == K && (x43 == L && (x44 == M && (x45 == N && (x46 == O && (x47 == P && (x48 == Q && (x49 == R && true)))))))) with
    | true =>
     cases ((↑(List.length x3) : Int) == 0) with
     | true =>
      cases (x34 == B) with
      | true =>
       cases (A == x33) with
       | true =>
        intro h; cases h; rfl
       | false =>
        intro h; cases h; rfl
      | false =>
       intro h; cases h; rfl
     | false =>
      intro h; cases h; rfl
    | false =>
     intro h; cases h; rfl
   | false =>
    intro h; cases h; rfl
  | false =>
   intro h; cases h; rfl
 | false =>
  cases (decide (x0 < IntKind.wrap IntKind.i64 (A - (1 : Int)))) with
  | true =>
   cases x1 with
   | true =>
    cases x2 with
    | true =>
     cases (x42 == K && (x43 == L && (x44 == M && (x45 == N && (x46 == O && (x47 == P && (x48 == Q && (x49 == R && true)))))))) with
     | true =>
      cases ((↑(List.length x3) : Int) == 0) with
      | true =>
       cases (x34 == B) with
       | true =>
        cases (A == x33) with
        | true =>
         intro h; cases h; rfl
        | false =>
         intro h; cases h; rfl
       | false =>
        intro h; cases h; rfl
      | false =>
       intro h; cases h; rfl
     | false =>
      intro h; cases h; rfl
    | false =>
     intro h; cases h; rfl
   | false =>
    intro h; cases h; rfl
  | false =>
   cases Q with
   | true =>
    cases (ok (L8_100_0 x1 x2 x3 x4 x5 x6 x7 x8 x9 A B C D E F G I J K L M N O P true true T U V W X Y x33 x34 x35 x36 x37 x38 x39 x40 x41 x42 x43 x44 x45 x46 x47 x48 x49)) with
    | true =>
     intro h; cases h; rfl
    | false =>
     intro h; cases h
   | false =>
    cases (ok (L8_108_0 x1 x3 x4 x5 x6 x7 x8 x9 A B C D E F G I J K L M N O P false R T U V W X Y x33 x34 x35 x36 x37 x38 x39 x40 x41)) with
    | true =>
     intro h; cases h; rfl
    | false =>
     intro h; cases h
noncomputable def sL8_68_0 : TellS := fun S => dCS 0 S fun y1 y2 y3 => dSI 1 .i64 y1 fun x0 l4 => dSt 2 l4 fun y6 l5 => dL 2 0 y6 <| dSs 5 l5 fun y8 l7 => dBool y8 fun x1 => dSt 6 l7 fun y10 l9 => dL 6 0 y10 <| dSt 7 l9 fun y12 l11 => dL 7 0 y12 <| dSt 8 l11 fun y14 l13 => dL 8 0 y14 <| dSs 9 l13 fun y16 l15 => dBool y16 fun x2 => dSs 10 l15 fun y18 l17 => dD 30 PKy y18 fun x3 => dE l17 <| dLo 2 y2 fun y19 l20 => dCI .i64 y19 fun x4 l21 => dCI .i64 l21 fun x5 l22 => dCI .i64 l22 fun x6 l23 => dCI .i64 l23 fun x7 l24 => dCI .i64 l24 fun x8 l25 => dC l25 fun y26 l27 => dD 51 (.list 55 QDy) y26 fun x9 => dCI .i64 l27 fun A l28 => dCI .i64 l28 fun B l29 => dCI .i64 l29 fun C l30 => dCI .i64 l30 fun D l31 => dCI .i64 l31 fun E l32 => dCI .i64 l32 fun F l33 => dCI .i64 l33 fun G l34 => dCI .i64 l34 fun I l35 => dCI .u64 l35 fun J l36 => dE l36 <| dLo 6 l20 fun y37 l38 => dCI .i64 y37 fun K l39 => dCI .i64 l39 fun L l40 => dCI .i64 l40 fun M l41 => dCI .i64 l41 fun N l42 => dCI .i64 l42 fun O l43 => dCI .i64 l43 fun P l44 => dC l44 fun y45 l46 => dBool y45 fun Q => dC l46 fun y47 l48 => dBool y47 fun R => dE l48 <| dLo 7 l38 fun y49 l50 => dCI .i64 y49 fun T l51 => dCI .i64 l51 fun U l52 => dCI .i64 l52 fun V l53 => dCI .i64 l53 fun W l54 => dCI .i64 l54 fun X l55 => dC l55 fun y56 l57 => dD 51 (.list 55 QDy) y56 fun Y => dCI .i64 l57 fun x33 l58 => dCI .i64 l58 fun x34 l59 => dCI .i64 l59 fun x35 l60 => dCI .i64 l60 fun x36 l61 => dCI .i64 l61 fun x37 l62 => dCI .i64 l62 fun x38 l63 => dCI .i64 l63 fun x39 l64 => dCI .i64 l64 fun x40 l65 => dCI .u64 l65 fun x41 l66 => dE l66 <| dLo 8 l50 fun y67 l68 => dCI .i64 y67 fun x42 l69 => dCI .i64 l69 fun x43 l70 => dCI .i64 l70 fun x44 l71 => dCI .i64 l71 fun x45 l72 => dCI .i64 l72 fun x46 l73 => dCI .i64 l73 fun x47 l74 => dC l74 fun y75 l76 => dBool y75 fun x48 => dC l76 fun y77 l78 => dBool y77 fun x49 => dE l78 <| dE l68 <| dE y3 <|  some [(ok (L8_68_0 x0 x1 x2 x3 x4 x5 x6 x7 x8 x9 A B C D E F G I J K L M N O P Q R T U V W X Y x33 x34 x35 x36 x37 x38 x39 x40 x41 x42 x43 x44 x45 x46 x47 x48 x49), .ret, { sl := [(4, .v (.sc (.bool ((val (L8_68_0 x0 x1 x2 x3 x4 x5 x6 x7 x8 x9 A B C D E F G I J K L M N O P Q R T U V W X Y x33 x34 x35 x36 x37 x38 x39 x40 x41 x42 x43 x44 x45 x46 x47 x48 x49))))))], lo := [], h := [], n0 := 0, w := true })]
theorem wL8_68_0 : NewTell Try.prog dOk base o43 t43 ((8, 68), sL8_68_0) := by
 refine ⟨(codeAt Try.prog (tn0 8) 8 68), 0, by kernel_rfl, ?_⟩
 intro S alts e S' h10 h2
 have h1 : sL8_68_0 S = some alts := h10
 clear h10
 unfold sL8_68_0 at h1
 replace h1 := dCS_some h1; obtain ⟨_, _, _, rfl, h1⟩ := h1
 replace h1 := dSI_some h1; obtain ⟨_, _, rfl, h1⟩ := h1
 replace h1 := dSt_some h1; obtain ⟨_, _, rfl, h1⟩ := h1
 replace h1 := dL_some h1; obtain ⟨rfl, h1⟩ := h1
 replace h1 := dSs_some h1; obtain ⟨_, _, rfl, h1⟩ := h1
 replace h1 := dBool_some h1; obtain ⟨_, rfl, h1⟩ := h1
 replace h1 := dSt_some h1; obtain ⟨_, _, rfl, h1⟩ := h1
 replace h1 := dL_some h1; obtain ⟨rfl, h1⟩ := h1
 replace h1 := dSt_some h1; obtain ⟨_, _, rfl, h1⟩ := h1
 replace h1 := dL_some h1; obtain ⟨rfl, h1⟩ := h1
 replace h1 := dSt_some h1; obtain ⟨_, _, rfl, h1⟩ := h1
 replace h1 := dL_some h1; obtain ⟨rfl, h1⟩ := h1
 replace h1 := dSs_some h1; obtain ⟨_, _, rfl, h1⟩ := h1
 replace h1 := dBool_some h1; obtain ⟨_, rfl, h1⟩ := h1
 replace h1 := dSs_some h1; obtain ⟨_, _, rfl, h1⟩ := h1
 replace h1 := dD_some h1; obtain ⟨_, rfl, h1⟩ := h1
 replace h1 := dE_some h1; obtain ⟨rfl, h1⟩ := h1
 replace h1 := dLo_some h1; obtain ⟨_, _, rfl, h1⟩ := h1
 replace h1 := dJ5 h1; obtain ⟨_, _, _, _, _, _, rfl, h1⟩ := h1
 replace h1 := dC_some h1; obtain ⟨_, _, rfl, h1⟩ := h1
 replace h1 := dD_some h1; obtain ⟨_, rfl, h1⟩ := h1
 replace h1 := dJ9 h1; obtain ⟨_, _, _, _, _, _, _, _, _, _, rfl, h1⟩ := h1
 replace h1 := dE_some h1; obtain ⟨rfl, h1⟩ := h1
 replace h1 := dLo_some h1; obtain ⟨_, _, rfl, h1⟩ := h1
 replace h1 := dJ6 h1; obtain ⟨_, _, _, _, _, _, _, rfl, h1⟩ := h1
 replace h1 := dC_some h1; obtain ⟨_, _, rfl, h1⟩ := h1
 replace h1 := dBool_some h1; obtain ⟨_, rfl, h1⟩ := h1
 replace h1 := dC_some h1; obtain ⟨_, _, rfl, h1⟩ := h1
 replace h1 := dBool_some h1; obtain ⟨_, rfl, h1⟩ := h1
 replace h1 := dE_some h1; obtain ⟨rfl, h1⟩ := h1
 replace h1 := dLo_some h1; obtain ⟨_, _, rfl, h1⟩ := h1
 replace h1 := dJ5 h1; obtain ⟨_, _, _, _, _, _, rfl, h1⟩ := h1
 replace h1 := dC_some h1; obtain ⟨_, _, rfl, h1⟩ := h1
 replace h1 := dD_some h1; obtain ⟨_, rfl, h1⟩ := h1
 replace h1 := dJ9 h1; obtain ⟨_, _, _, _, _, _, _, _, _, _, rfl, h1⟩ := h1
 replace h1 := dE_some h1; obtain ⟨rfl, h1⟩ := h1
 replace h1 := dLo_some h1; obtain ⟨_, _, rfl, h1⟩ := h1
 replace h1 := dJ6 h1; obtain ⟨_, _, _, _, _, _, _, rfl, h1⟩ := h1
 replace h1 := dC_some h1; obtain ⟨_, _, rfl, h1⟩ := h1
 replace h1 := dBool_some h1; obtain ⟨_, rfl, h1⟩ := h1
 replace h1 := dC_some h1; obtain ⟨_, _, rfl, h1⟩ := h1
 replace h1 := dBool_some h1; obtain ⟨_, rfl, h1⟩ := h1
 replace h1 := dE_some h1; obtain ⟨rfl, h1⟩ := h1
 replace h1 := dE_some h1; obtain ⟨rfl, h1⟩ := h1
 replace h1 := dE_some h1; obtain ⟨rfl, h1⟩ := h1
 cases h1
 obtain ⟨hc0, rfl, rfl⟩ := pick_one h2
 exact ⟨0 + 40, (evPiece_code rfl).trans (lL8_68_0 0 _ _ _ _ _ _ _ _ _ _ _ _ _ _ _ _ _ _ _ _ _ _ _ _ _ _ _ _ _ _ _ _ _ _ _ _ _ _ _ _ _ _ _ _ _ _ _ _ _ _ _ (ok_val hc0))⟩
noncomputable def o44 : OrcT := o43
noncomputable def t44 : TellT := ((8, 68), sL8_68_0) :: t43
noncomputable abbrev tn44 : FuncId → TAn := mkTn base o44 t44
theorem ok44 : TnOk Try.prog tn44 (mkA base) dOk := by
 have h0 : TnOk Try.prog (mkTn base o43 t43) (mkA base) dOk := ok43
 have h1 := tn_tell h0 h0 (p := ((8, 68), sL8_68_0)) wL8_68_0
 exact h1
noncomputable def L8_44_0 (x0 : Int) (x1 : Bool) (x2 x3 x4 x5 x6 : Int) (x7 : (List (List (PKt × Int)))) (x8 x9 A B C D E F G I J K L M N : Int) (O : Bool) (P : Bool) : Option Bool := (cond (ok (v14 x2 x3 x4 x5 x6 x7 x8 x9 A B C D E F G x0)) (cond ((val (v14 x2 x3 x4 x5 x6 x7 x8 x9 A B C D E F G x0)).2.2.2.2.2.2.2.2.2.2.2.2.2.2.2.2.2.2.2.2.2.2.2.2.2 != 0) (some (false)) (cond (ok (L8_68_0 x0 x1 (val (v14 x2 x3 x4 x5 x6 x7 x8 x9 A B C D E F G x0)).2.2.2.2.2.2.2.2.2.2.2.2.2.2.2.2.2.2.2.2.2.2.2.1 (val (v14 x2 x3 x4 x5 x6 x7 x8 x9 A B C D E F G x0)).2.2.2.2.2.2.2.2.2.2.2.2.2.2.2.2.2.2.2.2.2.2.2.2.1 x2 x3 x4 x5 x6 x7 x8 x9 A B C D E F G I J K L M N O P (val (v14 x2 x3 x4 x5 x6 x7 x8 x9 A B C D E F G x0)).1 (val (v14 x2 x3 x4 x5 x6 x7 x8 x9 A B C D E F G x0)).2.1 (val (v14 x2 x3 x4 x5 x6 x7 x8 x9 A B C D E F G x0)).2.2.1 (val (v14 x2 x3 x4 x5 x6 x7 x8 x9 A B C D E F G x0)).2.2.2.1 (val (v14 x2 x3 x4 x5 x6 x7 x8 x9 A B C D E F G x0)).2.2.2.2.1 (val (v14 x2 x3 x4 x5 x6 x7 x8 x9 A B C D E F G x0)).2.2.2.2.2.1 (val (v14 x2 x3 x4 x5 x6 x7 x8 x9 A B C D E F G x0)).2.2.2.2.2.2.1 (val (v14 x2 x3 x4 x5 x6 x7 x8 x9 A B C D E F G x0)).2.2.2.2.2.2.2.1 (val (v14 x2 x3 x4 x5 x6 x7 x8 x9 A B C D E F G x0)).2.2.2.2.2.2.2.2.1 (val (v14 x2 x3 x4 x5 x6 x7 x8 x9 A B C D E F G x0)).2.2.2.2.2.2.2.2.2.1 (val (v14 x2 x3 x4 x5 x6 x7 x8 x9 A B C D E F G x0)).2.2.2.2.2.2.2.2.2.2.1 (val (v14 x2 x3 x4 x5 x6 x7 x8 x9 A B C D E F G x0)).2.2.2.2.2.2.2.2.2.2.2.1 (val (v14 x2 x3 x4 x5 x6 x7 x8 x9 A B C D E F G x0)).2.2.2.2.2.2.2.2.2.2.2.2.1 (val (v14 x2 x3 x4 x5 x6 x7 x8 x9 A B C D E F G x0)).2.2.2.2.2.2.2.2.2.2.2.2.2.1 (val (v14 x2 x3 x4 x5 x6 x7 x8 x9 A B C D E F G x0)).2.2.2.2.2.2.2.2.2.2.2.2.2.2.1 (val (v14 x2 x3 x4 x5 x6 x7 x8 x9 A B C D E F G x0)).2.2.2.2.2.2.2.2.2.2.2.2.2.2.2.1 (val (v14 x2 x3 x4 x5 x6 x7 x8 x9 A B C D E F G x0)).2.2.2.2.2.2.2.2.2.2.2.2.2.2.2.2.1 (val (v14 x2 x3 x4 x5 x6 x7 x8 x9 A B C D E F G x0)).2.2.2.2.2.2.2.2.2.2.2.2.2.2.2.2.2.1 (val (v14 x2 x3 x4 x5 x6 x7 x8 x9 A B C D E F G x0)).2.2.2.2.2.2.2.2.2.2.2.2.2.2.2.2.2.2.1 (val (v14 x2 x3 x4 x5 x6 x7 x8 x9 A B C D E F G x0)).2.2.2.2.2.2.2.2.2.2.2.2.2.2.2.2.2.2.2.1 (val (v14 x2 x3 x4 x5 x6 x7 x8 x9 A B C D E F G x0)).2.2.2.2.2.2.2.2.2.2.2.2.2.2.2.2.2.2.2.2.1 (val (v14 x2 x3 x4 x5 x6 x7 x8 x9 A B C D E F G x0)).2.2.2.2.2.2.2.2.2.2.2.2.2.2.2.2.2.2.2.2.2.1 (val (v14 x2 x3 x4 x5 x6 x7 x8 x9 A B C D E F G x0)).2.2.2.2.2.2.2.2.2.2.2.2.2.2.2.2.2.2.2.2.2.2.1)) (some (val (L8_68_0 x0 x1 (val (v14 x2 x3 x4 x5 x6 x7 x8 x9 A B C D E F G x0)).2.2.2.2.2.2.2.2.2.2.2.2.2.2.2.2.2.2.2.2.2.2.2.1 (val (v14 x2 x3 x4 x5 x6 x7 x8 x9 A B C D E F G x0)).2.2.2.2.2.2.2.2.2.2.2.2.2.2.2.2.2.2.2.2.2.2.2.2.1 x2 x3 x4 x5 x6 x7 x8 x9 A B C D E F G I J K L M N O P (val (v14 x2 x3 x4 x5 x6 x7 x8 x9 A B C D E F G x0)).1 (val (v14 x2 x3 x4 x5 x6 x7 x8 x9 A B C D E F G x0)).2.1 (val (v14 x2 x3 x4 x5 x6 x7 x8 x9 A B C D E F G x0)).2.2.1 (val (v14 x2 x3 x4 x5 x6 x7 x8 x9 A B C D E F G x0)).2.2.2.1 (val (v14 x2 x3 x4 x5 x6 x7 x8 x9 A B C D E F G x0)).2.2.2.2.1 (val (v14 x2 x3 x4 x5 x6 x7 x8 x9 A B C D E F G x0)).2.2.2.2.2.1 (val (v14 x2 x3 x4 x5 x6 x7 x8 x9 A B C D E F G x0)).2.2.2.2.2.2.1 (val (v14 x2 x3 x4 x5 x6 x7 x8 x9 A B C D E F G x0)).2.2.2.2.2.2.2.1 (val (v14 x2 x3 x4 x5 x6 x7 x8 x9 A B C D E F G x0)).2.2.2.2.2.2.2.2.1 (val (v14 x2 x3 x4 x5 x6 x7 x8 x9 A B C D E F G x0)).2.2.2.2.2.2.2.2.2.1 (val (v14 x2 x3 x4 x5 x6 x7 x8 x9 A B C D E F G x0)).2.2.2.2.2.2.2.2.2.2.1 (val (v14 x2 x3 x4 x5 x6 x7 x8 x9 A B C D E F G x0)).2.2.2.2.2.2.2.2.2.2.2.1 (val (v14 x2 x3 x4 x5 x6 x7 x8 x9 A B C D E F G x0)).2.2.2.2.2.2.2.2.2.2.2.2.1 (val (v14 x2 x3 x4 x5 x6 x7 x8 x9 A B C D E F G x0)).2.2.2.2.2.2.2.2.2.2.2.2.2.1 (val (v14 x2 x3 x4 x5 x6 x7 x8 x9 A B C D E F G x0)).2.2.2.2.2.2.2.2.2.2.2.2.2.2.1 (val (v14 x2 x3 x4 x5 x6 x7 x8 x9 A B C D E F G x0)).2.2.2.2.2.2.2.2.2.2.2.2.2.2.2.1 (val (v14 x2 x3 x4 x5 x6 x7 x8 x9 A B C D E F G x0)).2.2.2.2.2.2.2.2.2.2.2.2.2.2.2.2.1 (val (v14 x2 x3 x4 x5 x6 x7 x8 x9 A B C D E F G x0)).2.2.2.2.2.2.2.2.2.2.2.2.2.2.2.2.2.1 (val (v14 x2 x3 x4 x5 x6 x7 x8 x9 A B C D E F G x0)).2.2.2.2.2.2.2.2.2.2.2.2.2.2.2.2.2.2.1 (val (v14 x2 x3 x4 x5 x6 x7 x8 x9 A B C D E F G x0)).2.2.2.2.2.2.2.2.2.2.2.2.2.2.2.2.2.2.2.1 (val (v14 x2 x3 x4 x5 x6 x7 x8 x9 A B C D E F G x0)).2.2.2.2.2.2.2.2.2.2.2.2.2.2.2.2.2.2.2.2.1 (val (v14 x2 x3 x4 x5 x6 x7 x8 x9 A B C D E F G x0)).2.2.2.2.2.2.2.2.2.2.2.2.2.2.2.2.2.2.2.2.2.1 (val (v14 x2 x3 x4 x5 x6 x7 x8 x9 A B C D E F G x0)).2.2.2.2.2.2.2.2.2.2.2.2.2.2.2.2.2.2.2.2.2.2.1))) none)) none)
noncomputable def xL8_44_0 (x0 : Int) (x1 : Bool) (x2 x3 x4 x5 x6 : Int) (x7 : (List (List (PKt × Int)))) (x8 x9 A B C D E F G I J K L M N : Int) (O : Bool) (P : Bool) : Bool → Ex × CS := fun r => (.ret, { sl := [(4, .v (.sc (.bool (r))))], lo := [], h := [], n0 := 0, w := true })
theorem bL8_44_0 (k : Nat) (cX : Ex → CS → Option (Ex × CS)) (x0 : Int) (x1 : Bool) (x2 x3 x4 x5 x6 : Int) (x7 : (List (List (PKt × Int)))) (x8 x9 A B C D E F G I J K L M N : Int) (O : Bool) (P : Bool) : pieceBody Try.prog (mkTn base o44 t44 8) (TM.evF Try.prog (mkTn base o44 t44) dOk (k + 40)) dOk (k + 40) (codeAt Try.prog (tn0 8) 8 44) 0 44 { sl := [(1, .v (.sc (I4 (x0)))), (2, .l 2 0), (5, .v (.sc (.bool (x1)))), (6, .l 6 0)], lo := [(2, [I4 (x2), I4 (x3), I4 (x4), I4 (x5), I4 (x6), .d 51 (.list 55 QDy) (x7), I4 (x8), I4 (x9), I4 (A), I4 (B), I4 (C), I4 (D), I4 (E), I4 (F), .int .u64 (G)]), (6, [I4 (I), I4 (J), I4 (K), I4 (L), I4 (M), I4 (N), .bool (O), .bool (P)])], h := [], n0 := 0, w := false } cX = (cond (ok (v14 x2 x3 x4 x5 x6 x7 x8 x9 A B C D E F G x0)) (cond ((val (v14 x2 x3 x4 x5 x6 x7 x8 x9 A B C D E F G x0)).2.2.2.2.2.2.2.2.2.2.2.2.2.2.2.2.2.2.2.2.2.2.2.2.2 != 0) (cX .ret { sl := [(4, .v (.sc (.bool (false))))], lo := [], h := [], n0 := 0, w := true }) (cond (ok (L8_68_0 x0 x1 (val (v14 x2 x3 x4 x5 x6 x7 x8 x9 A B C D E F G x0)).2.2.2.2.2.2.2.2.2.2.2.2.2.2.2.2.2.2.2.2.2.2.2.1 (val (v14 x2 x3 x4 x5 x6 x7 x8 x9 A B C D E F G x0)).2.2.2.2.2.2.2.2.2.2.2.2.2.2.2.2.2.2.2.2.2.2.2.2.1 x2 x3 x4 x5 x6 x7 x8 x9 A B C D E F G I J K L M N O P (val (v14 x2 x3 x4 x5 x6 x7 x8 x9 A B C D E F G x0)).1 (val (v14 x2 x3 x4 x5 x6 x7 x8 x9 A B C D E F G x0)).2.1 (val (v14 x2 x3 x4 x5 x6 x7 x8 x9 A B C D E F G x0)).2.2.1 (val (v14 x2 x3 x4 x5 x6 x7 x8 x9 A B C D E F G x0)).2.2.2.1 (val (v14 x2 x3 x4 x5 x6 x7 x8 x9 A B C D E F G x0)).2.2.2.2.1 (val (v14 x2 x3 x4 x5 x6 x7 x8 x9 A B C D E F G x0)).2.2.2.2.2.1 (val (v14 x2 x3 x4 x5 x6 x7 x8 x9 A B C D E F G x0)).2.2.2.2.2.2.1 (val (v14 x2 x3 x4 x5 x6 x7 x8 x9 A B C D E F G x0)).2.2.2.2.2.2.2.1 (val (v14 x2 x3 x4 x5 x6 x7 x8 x9 A B C D E F G x0)).2.2.2.2.2.2.2.2.1 (val (v14 x2 x3 x4 x5 x6 x7 x8 x9 A B C D E F G x0)).2.2.2.2.2.2.2.2.2.1 (val (v14 x2 x3 x4 x5 x6 x7 x8 x9 A B C D E F G x0)).2.2.2.2.2.2.2.2.2.2.1 (val (v14 x2 x3 x4 x5 x6 x7 x8 x9 A B C D E F G x0)).2.2.2.2.2.2.2.2.2.2.2.1 (val (v14 x2 x3 x4 x5 x6 x7 x8 x9 A B C D E F G x0)).2.2.2.2.2.2.2.2.2.2.2.2.1 (val (v14 x2 x3 x4 x5 x6 x7 x8 x9 A B C D E F G x0)).2.2.2.2.2.2.2.2.2.2.2.2.2.1 (val (v14 x2 x3 x4 x5 x6 x7 x8 x9 A B C D E F G x0)).2.2.2.2.2.2.2.2.2.2.2.2.2.2.1 (val (v14 x2 x3 x4 x5 x6 x7 x8 x9 A B C D E F G x0)).2.2.2.2.2.2.2.2.2.2.2.2.2.2.2.1 (val (v14 x2 x3 x4 x5 x6 x7 x8 x9 A B C D E F G x0)).2.2.2.2.2.2.2.2.2.2.2.2.2.2.2.2.1 (val (v14 x2 x3 x4 x5 x6 x7 x8 x9 A B C D E F G x0)).2.2.2.2.2.2.2.2.2.2.2.2.2.2.2.2.2.1 (val (v14 x2 x3 x4 x5 x6 x7 x8 x9 A B C D E F G x0)).2.2.2.2.2.2.2.2.2.2.2.2.2.2.2.2.2.2.1 (val (v14 x2 x3 x4 x5 x6 x7 x8 x9 A B C D E F G x0)).2.2.2.2.2.2.2.2.2.2.2.2.2.2.2.2.2.2.2.1 (val (v14 x2 x3 x4 x5 x6 x7 x8 x9 A B C D E F G x0)).2.2.2.2.2.2.2.2.2.2.2.2.2.2.2.2.2.2.2.2.1 (val (v14 x2 x3 x4 x5 x6 x7 x8 x9 A B C D E F G x0)).2.2.2.2.2.2.2.2.2.2.2.2.2.2.2.2.2.2.2.2.2.1 (val (v14 x2 x3 x4 x5 x6 x7 x8 x9 A B C D E F G x0)).2.2.2.2.2.2.2.2.2.2.2.2.2.2.2.2.2.2.2.2.2.2.1)) (cX .ret { sl := [(4, .v (.sc (.bool (val (L8_68_0 x0 x1 (val (v14 x2 x3 x4 x5 x6 x7 x8 x9 A B C D E F G x0)).2.2.2.2.2.2.2.2.2.2.2.2.2.2.2.2.2.2.2.2.2.2.2.1 (val (v14 x2 x3 x4 x5 x6 x7 x8 x9 A B C D E F G x0)).2.2.2.2.2.2.2.2.2.2.2.2.2.2.2.2.2.2.2.2.2.2.2.2.1 x2 x3 x4 x5 x6 x7 x8 x9 A B C D E F G I J K L M N O P (val (v14 x2 x3 x4 x5 x6 x7 x8 x9 A B C D E F G x0)).1 (val (v14 x2 x3 x4 x5 x6 x7 x8 x9 A B C D E F G x0)).2.1 (val (v14 x2 x3 x4 x5 x6 x7 x8 x9 A B C D E F G x0)).2.2.1 (val (v14 x2 x3 x4 x5 x6 x7 x8 x9 A B C D E F G x0)).2.2.2.1 (val (v14 x2 x3 x4 x5 x6 x7 x8 x9 A B C D E F G x0)).2.2.2.2.1 (val (v14 x2 x3 x4 x5 x6 x7 x8 x9 A B C D E F G x0)).2.2.2.2.2.1 (val (v14 x2 x3 x4 x5 x6 x7 x8 x9 A B C D E F G x0)).2.2.2.2.2.2.1 (val (v14 x2 x3 x4 x5 x6 x7 x8 x9 A B C D E F G x0)).2.2.2.2.2.2.2.1 (val (v14 x2 x3 x4 x5 x6 x7 x8 x9 A B C D E F G x0)).2.2.2.2.2.2.2.2.1 (val (v14 x2 x3 x4 x5 x6 x7 x8 x9 A B C D E F G x0)).2.2.2.2.2.2.2.2.2.1 (val (v14 x2 x3 x4 x5 x6 x7 x8 x9 A B C D E F G x0)).2.2.2.2.2.2.2.2.2.2.1 (val (v14 x2 x3 x4 x5 x6 x7 x8 x9 A B C D E F G x0)).2.2.2.2.2.2.2.2.2.2.2.1 (val (v14 x2 x3 x4 x5 x6 x7 x8 x9 A B C D E F G x0)).2.2.2.2.2.2.2.2.2.2.2.2.1 (val (v14 x2 x3 x4 x5 x6 x7 x8 x9 A B C D E F G x0)).2.2.2.2.2.2.2.2.2.2.2.2.2.1 (val (v14 x2 x3 x4 x5 x6 x7 x8 x9 A B C D E F G x0)).2.2.2.2.2.2.2.2.2.2.2.2.2.2.1 (val (v14 x2 x3 x4 x5 x6 x7 x8 x9 A B C D E F G x0)).2.2.2.2.2.2.2.2.2.2.2.2.2.2.2.1 (val (v14 x2 x3 x4 x5 x6 x7 x8 x9 A B C D E F G x0)).2.2.2.2.2.2.2.2.2.2.2.2.2.2.2.2.1 (val (v14 x2 x3 x4 x5 x6 x7 x8 x9 A B C D E F G x0)).2.2.2.2.2.2.2.2.2.2.2.2.2.2.2.2.2.1 (val (v14 x2 x3 x4 x5 x6 x7 x8 x9 A B C D E F G x0)).2.2.2.2.2.2.2.2.2.2.2.2.2.2.2.2.2.2.1 (val (v14 x2 x3 x4 x5 x6 x7 x8 x9 A B C D E F G x0)).2.2.2.2.2.2.2.2.2.2.2.2.2.2.2.2.2.2.2.1 (val (v14 x2 x3 x4 x5 x6 x7 x8 x9 A B C D E F G x0)).2.2.2.2.2.2.2.2.2.2.2.2.2.2.2.2.2.2.2.2.1 (val (v14 x2 x3 x4 x5 x6 x7 x8 x9 A B C D E F G x0)).2.2.2.2.2.2.2.2.2.2.2.2.2.2.2.2.2.2.2.2.2.1 (val (v14 x2 x3 x4 x5 x6 x7 x8 x9 A B C D E F G x0)).2.2.2.2.2.2.2.2.2.2.2.2.2.2.2.2.2.2.2.2.2.2.1)))))], lo := [], h := [], n0 := 0, w := true }) none)) none) := by kernel_rfl
theorem lL8_44_0 (k : Nat) (x0 : Int) (x1 : Bool) (x2 x3 x4 x5 x6 : Int) (x7 : (List (List (PKt × Int)))) (x8 x9 A B C D E F G I J K L M N : Int) (O : Bool) (P : Bool) (r : Bool) : L8_44_0 x0 x1 x2 x3 x4 x5 x6 x7 x8 x9 A B C D E F G I J K L M N O P = some r → pieceBody Try.prog (mkTn base o44 t44 8) (TM.evF Try.prog (mkTn base o44 t44) dOk (k + 40)) dOk (k + 40) (codeAt Try.prog (tn0 8) 8 44) 0 44 { sl := [(1, .v (.sc (I4 (x0)))), (2, .l 2 0), (5, .v (.sc (.bool (x1)))), (6, .l 6 0)], lo := [(2, [I4 (x2), I4 (x3), I4 (x4), I4 (x5), I4 (x6), .d 51 (.list 55 QDy) (x7), I4 (x8), I4 (x9), I4 (A), I4 (B), I4 (C), I4 (D), I4 (E), I4 (F), .int .u64 (G)]), (6, [I4 (I), I4 (J), I4 (K), I4 (L), I4 (M), I4 (N), .bool (O), .bool (P)])], h := [], n0 := 0, w := false } (fun e s => some (e, s)) = some (xL8_44_0 x0 x1 x2 x3 x4 x5 x6 x7 x8 x9 A B C D E F G I J K L M N O P r) := by
 rw [bL8_44_0]
 unfold L8_44_0
 refine cond_go ?_ ?_
 refine cond_go ?_ ?_
 intro h; cases h; rfl
 refine cond_go ?_ ?_
 intro h; cases h; rfl
 intro h; cases h
 intro h; cases h
noncomputable def sL8_44_0 : TellS := fun S => dCS 0 S fun y1 y2 y3 => dSI 1 .i64 y1 fun x0 l4 => dSt 2 l4 fun y6 l5 => dL 2 0 y6 <| dSs 5 l5 fun y8 l7 => dBool y8 fun x1 => dSt 6 l7 fun y10 l9 => dL 6 0 y10 <| dE l9 <| dLo 2 y2 fun y11 l12 => dCI .i64 y11 fun x2 l13 => dCI .i64 l13 fun x3 l14 => dCI .i64 l14 fun x4 l15 => dCI .i64 l15 fun x5 l16 => dCI .i64 l16 fun x6 l17 => dC l17 fun y18 l19 => dD 51 (.list 55 QDy) y18 fun x7 => dCI .i64 l19 fun x8 l20 => dCI .i64 l20 fun x9 l21 => dCI .i64 l21 fun A l22 => dCI .i64 l22 fun B l23 => dCI .i64 l23 fun C l24 => dCI .i64 l24 fun D l25 => dCI .i64 l25 fun E l26 => dCI .i64 l26 fun F l27 => dCI .u64 l27 fun G l28 => dE l28 <| dLo 6 l12 fun y29 l30 => dCI .i64 y29 fun I l31 => dCI .i64 l31 fun J l32 => dCI .i64 l32 fun K l33 => dCI .i64 l33 fun L l34 => dCI .i64 l34 fun M l35 => dCI .i64 l35 fun N l36 => dC l36 fun y37 l38 => dBool y37 fun O => dC l38 fun y39 l40 => dBool y39 fun P => dE l40 <| dE l30 <| dE y3 <|  some [(ok (L8_44_0 x0 x1 x2 x3 x4 x5 x6 x7 x8 x9 A B C D E F G I J K L M N O P), .ret, { sl := [(4, .v (.sc (.bool ((val (L8_44_0 x0 x1 x2 x3 x4 x5 x6 x7 x8 x9 A B C D E F G I J K L M N O P))))))], lo := [], h := [], n0 := 0, w := true })]
theorem wL8_44_0 : NewTell Try.prog dOk base o44 t44 ((8, 44), sL8_44_0) := by
 refine ⟨(codeAt Try.prog (tn0 8) 8 44), 0, by kernel_rfl, ?_⟩
 intro S alts e S' h10 h2
 have h1 : sL8_44_0 S = some alts := h10
 clear h10
 unfold sL8_44_0 at h1
 replace h1 := dCS_some h1; obtain ⟨_, _, _, rfl, h1⟩ := h1
 replace h1 := dSI_some h1; obtain ⟨_, _, rfl, h1⟩ := h1
 replace h1 := dSt_some h1; obtain ⟨_, _, rfl, h1⟩ := h1
 replace h1 := dL_some h1; obtain ⟨rfl, h1⟩ := h1
 replace h1 := dSs_some h1; obtain ⟨_, _, rfl, h1⟩ := h1
 replace h1 := dBool_some h1; obtain ⟨_, rfl, h1⟩ := h1
 replace h1 := dSt_some h1; obtain ⟨_, _, rfl, h1⟩ := h1
 replace h1 := dL_some h1; obtain ⟨rfl, h1⟩ := h1
 replace h1 := dE_some h1; obtain ⟨rfl, h1⟩ := h1
 replace h1 := dLo_some h1; obtain ⟨_, _, rfl, h1⟩ := h1
 replace h1 := dJ5 h1; obtain ⟨_, _, _, _, _, _, rfl, h1⟩ := h1
 replace h1 := dC_some h1; obtain ⟨_, _, rfl, h1⟩ := h1
 replace h1 := dD_some h1; obtain ⟨_, rfl, h1⟩ := h1
 replace h1 := dJ9 h1; obtain ⟨_, _, _, _, _, _, _, _, _, _, rfl, h1⟩ := h1
 replace h1 := dE_some h1; obtain ⟨rfl, h1⟩ := h1
 replace h1 := dLo_some h1; obtain ⟨_, _, rfl, h1⟩ := h1
 replace h1 := dJ6 h1; obtain ⟨_, _, _, _, _, _, _, rfl, h1⟩ := h1
 replace h1 := dC_some h1; obtain ⟨_, _, rfl, h1⟩ := h1
 replace h1 := dBool_some h1; obtain ⟨_, rfl, h1⟩ := h1
 replace h1 := dC_some h1; obtain ⟨_, _, rfl, h1⟩ := h1
 replace h1 := dBool_some h1; obtain ⟨_, rfl, h1⟩ := h1
 replace h1 := dE_some h1; obtain ⟨rfl, h1⟩ := h1
 replace h1 := dE_some h1; obtain ⟨rfl, h1⟩ := h1
 replace h1 := dE_some h1; obtain ⟨rfl, h1⟩ := h1
 cases h1
 obtain ⟨hc0, rfl, rfl⟩ := pick_one h2
 exact ⟨0 + 40, (evPiece_code rfl).trans (lL8_44_0 0 _ _ _ _ _ _ _ _ _ _ _ _ _ _ _ _ _ _ _ _ _ _ _ _ _ _ (ok_val hc0))⟩
noncomputable def o45 : OrcT := o44
noncomputable def t45 : TellT := ((8, 44), sL8_44_0) :: t44
noncomputable abbrev tn45 : FuncId → TAn := mkTn base o45 t45
theorem ok45 : TnOk Try.prog tn45 (mkA base) dOk := by
 have h0 : TnOk Try.prog (mkTn base o44 t44) (mkA base) dOk := ok44
 have h1 := tn_tell h0 h0 (p := ((8, 44), sL8_44_0)) wL8_44_0
 exact h1
noncomputable def v8 (x0 x1 x2 x3 x4 : Int) (x5 : (List (List (PKt × Int)))) (x6 x7 x8 x9 A B C D E F : Int) : Option Bool := (cond (ok (v11 x0 x1 x2 x3 x4 x5 x6 x7 x8 x9 A B C D E)) (cond (!val (v11 x0 x1 x2 x3 x4 x5 x6 x7 x8 x9 A B C D E)) (some (true)) (cond (ok (v19 x0 x1 x2 x3 x4 x5 x6 x7 x8 x9 A B C D E)) (cond (!val (v19 x0 x1 x2 x3 x4 x5 x6 x7 x8 x9 A B C D E)) (some (true)) (cond (decide (0 < (↑(List.length x5) : Int))) (cond ((↑(List.length (List.getD x5 (Int.toNat 0) [])) : Int) == 0) (some (true)) (cond (ok (v26 F)) (cond (!val (v26 F)) (some (true)) (cond (decide (F < D)) (some (true)) (cond (decide (0 < (↑(List.length (List.getD x5 (Int.toNat 0) [])) : Int))) (cond (decide (IntKind.wrap IntKind.i64 (F - (List.getD (List.getD x5 (Int.toNat 0) []) (Int.toNat 0) (PKz, (0 : Int))).2) < x1)) (some (true)) (cond (ok (L8_44_0 F (val v10) x0 x1 x2 x3 x4 x5 x6 x7 x8 x9 A B C D E (List.getD (List.getD x5 (Int.toNat 0) []) (Int.toNat 0) (PKz, (0 : Int))).1.1 (List.getD (List.getD x5 (Int.toNat 0) []) (Int.toNat 0) (PKz, (0 : Int))).1.2.1 (List.getD (List.getD x5 (Int.toNat 0) []) (Int.toNat 0) (PKz, (0 : Int))).1.2.2.1 (List.getD (List.getD x5 (Int.toNat 0) []) (Int.toNat 0) (PKz, (0 : Int))).1.2.2.2.1 (List.getD (List.getD x5 (Int.toNat 0) []) (Int.toNat 0) (PKz, (0 : Int))).1.2.2.2.2.1 (List.getD (List.getD x5 (Int.toNat 0) []) (Int.toNat 0) (PKz, (0 : Int))).1.2.2.2.2.2.1 (List.getD (List.getD x5 (Int.toNat 0) []) (Int.toNat 0) (PKz, (0 : Int))).1.2.2.2.2.2.2.1 (List.getD (List.getD x5 (Int.toNat 0) []) (Int.toNat 0) (PKz, (0 : Int))).1.2.2.2.2.2.2.2)) (some (val (L8_44_0 F (val v10) x0 x1 x2 x3 x4 x5 x6 x7 x8 x9 A B C D E (List.getD (List.getD x5 (Int.toNat 0) []) (Int.toNat 0) (PKz, (0 : Int))).1.1 (List.getD (List.getD x5 (Int.toNat 0) []) (Int.toNat 0) (PKz, (0 : Int))).1.2.1 (List.getD (List.getD x5 (Int.toNat 0) []) (Int.toNat 0) (PKz, (0 : Int))).1.2.2.1 (List.getD (List.getD x5 (Int.toNat 0) []) (Int.toNat 0) (PKz, (0 : Int))).1.2.2.2.1 (List.getD (List.getD x5 (Int.toNat 0) []) (Int.toNat 0) (PKz, (0 : Int))).1.2.2.2.2.1 (List.getD (List.getD x5 (Int.toNat 0) []) (Int.toNat 0) (PKz, (0 : Int))).1.2.2.2.2.2.1 (List.getD (List.getD x5 (Int.toNat 0) []) (Int.toNat 0) (PKz, (0 : Int))).1.2.2.2.2.2.2.1 (List.getD (List.getD x5 (Int.toNat 0) []) (Int.toNat 0) (PKz, (0 : Int))).1.2.2.2.2.2.2.2))) none)) none))) none)) none)) none)) none)
theorem ev8 (x0 x1 x2 x3 x4 : Int) (x5 : (List (List (PKt × Int)))) (x6 x7 x8 x9 A B C D E F : Int) : fnBody Try.prog (mkTn base o45 t45 8) (TM.evF Try.prog (mkTn base o45 t45) dOk 40) dOk 40 8 [.agg [I4 (x0), I4 (x1), I4 (x2), I4 (x3), I4 (x4), .d 51 (.list 55 QDy) (x5), I4 (x6), I4 (x7), I4 (x8), I4 (x9), I4 (A), I4 (B), I4 (C), I4 (D), .int .u64 (E)], .sc (I4 (F))] [] = (v8 x0 x1 x2 x3 x4 x5 x6 x7 x8 x9 A B C D E F).bind fun r => some ([.sc (.bool (r))], []) := by
 refine Eq.trans (b := (cond (ok (v11 x0 x1 x2 x3 x4 x5 x6 x7 x8 x9 A B C D E)) (cond (!val (v11 x0 x1 x2 x3 x4 x5 x6 x7 x8 x9 A B C D E)) (some ([.sc (.bool (true))], [])) (cond (ok (v19 x0 x1 x2 x3 x4 x5 x6 x7 x8 x9 A B C D E)) (cond (!val (v19 x0 x1 x2 x3 x4 x5 x6 x7 x8 x9 A B C D E)) (some ([.sc (.bool (true))], [])) (cond (decide (0 < (↑(List.length x5) : Int))) (cond ((↑(List.length (List.getD x5 (Int.toNat 0) [])) : Int) == 0) (some ([.sc (.bool (true))], [])) (cond (ok (v26 F)) (cond (!val (v26 F)) (some ([.sc (.bool (true))], [])) (cond (decide (F < D)) (some ([.sc (.bool (true))], [])) (cond (decide (0 < (↑(List.length x5) : Int))) (cond (decide (0 < (↑(List.length (List.getD x5 (Int.toNat 0) [])) : Int))) (cond (decide (IntKind.wrap IntKind.i64 (F - (List.getD (List.getD x5 (Int.toNat 0) []) (Int.toNat 0) (PKz, (0 : Int))).2) < x1)) (some ([.sc (.bool (true))], [])) (cond (decide (0 < (↑(List.length x5) : Int))) (cond (decide (0 < (↑(List.length (List.getD x5 (Int.toNat 0) [])) : Int))) (cond (ok (L8_44_0 F (val v10) x0 x1 x2 x3 x4 x5 x6 x7 x8 x9 A B C D E (List.getD (List.getD x5 (Int.toNat 0) []) (Int.toNat 0) (PKz, (0 : Int))).1.1 (List.getD (List.getD x5 (Int.toNat 0) []) (Int.toNat 0) (PKz, (0 : Int))).1.2.1 (List.getD (List.getD x5 (Int.toNat 0) []) (Int.toNat 0) (PKz, (0 : Int))).1.2.2.1 (List.getD (List.getD x5 (Int.toNat 0) []) (Int.toNat 0) (PKz, (0 : Int))).1.2.2.2.1 (List.getD (List.getD x5 (Int.toNat 0) []) (Int.toNat 0) (PKz, (0 : Int))).1.2.2.2.2.1 (List.getD (List.getD x5 (Int.toNat 0) []) (Int.toNat 0) (PKz, (0 : Int))).1.2.2.2.2.2.1 (List.getD (List.getD x5 (Int.toNat 0) []) (Int.toNat 0) (PKz, (0 : Int))).1.2.2.2.2.2.2.1 (List.getD (List.getD x5 (Int.toNat 0) []) (Int.toNat 0) (PKz, (0 : Int))).1.2.2.2.2.2.2.2)) (some ([.sc (.bool (val (L8_44_0 F (val v10) x0 x1 x2 x3 x4 x5 x6 x7 x8 x9 A B C D E (List.getD (List.getD x5 (Int.toNat 0) []) (Int.toNat 0) (PKz, (0 : Int))).1.1 (List.getD (List.getD x5 (Int.toNat 0) []) (Int.toNat 0) (PKz, (0 : Int))).1.2.1 (List.getD (List.getD x5 (Int.toNat 0) []) (Int.toNat 0) (PKz, (0 : Int))).1.2.2.1 (List.getD (List.getD x5 (Int.toNat 0) []) (Int.toNat 0) (PKz, (0 : Int))).1.2.2.2.1 (List.getD (List.getD x5 (Int.toNat 0) []) (Int.toNat 0) (PKz, (0 : Int))).1.2.2.2.2.1 (List.getD (List.getD x5 (Int.toNat 0) []) (Int.toNat 0) (PKz, (0 : Int))).1.2.2.2.2.2.1 (List.getD (List.getD x5 (Int.toNat 0) []) (Int.toNat 0) (PKz, (0 : Int))).1.2.2.2.2.2.2.1 (List.getD (List.getD x5 (Int.toNat 0) []) (Int.toNat 0) (PKz, (0 : Int))).1.2.2.2.2.2.2.2)))], [])) none) none) none)) none) none))) none)) none)) none)) none)) (by kernel_rfl) ?_
 unfold v8
 cases (ok (v11 x0 x1 x2 x3 x4 x5 x6 x7 x8 x9 A B C D E)) with
 | true =>
  cases (!val (v11 x0 x1 x2 x3 x4 x5 x6 x7 x8 x9 A B C D E)) with
  | true =>
   rfl
  | false =>
   cases (ok (v19 x0 x1 x2 x3 x4 x5 x6 x7 x8 x9 A B C D E)) with
   | true =>
    cases (!val (v19 x0 x1 x2 x3 x4 x5 x6 x7 x8 x9 A B C D E)) with
    | true =>
     rfl
    | false =>
     cases (decide (0 < (↑(List.length x5) : Int))) with
     | true =>
      cases ((↑(List.length (List.getD x5 (Int.toNat 0) [])) : Int) == 0) with
      | true =>
       rfl
      | false =>
       cases (ok (v26 F)) with
       | true =>
        cases (!val (v26 F)) with
        | true =>
         rfl
        | false =>
         cases (decide (F < D)) with
         | true =>
          rfl
         | false =>
          cases (decide (0 < (↑(List.length (List.getD x5 (Int.toNat 0) [])) : Int))) with
          | true =>
           cases (decide (IntKind.wrap IntKind.i64 (F - (List.getD (List.getD x5 (Int.toNat 0) []) (Int.toNat 0) (PKz, (0 : Int))).2) < x1)) with
           | true =>
            rfl
           | false =>
            cases (ok (L8_44_0 F (val v10) x0 x1 x2 x3 x4 x5 x6 x7 x8 x9 A B C D E (List.getD (List.getD x5 (Int.toNat 0) []) (Int.toNat 0) (PKz, (0 : Int))).1.1 (List.getD (List.getD x5 (Int.toNat 0) []) (Int.toNat 0) (PKz, (0 : Int))).1.2.1 (List.getD (List.getD x5 (Int.toNat 0) []) (Int.toNat 0) (PKz, (0 : Int))).1.2.2.1 (List.getD (List.getD x5 (Int.toNat 0) []) (Int.toNat 0) (PKz, (0 : Int))).1.2.2.2.1 (List.getD (List.getD x5 (Int.toNat 0) []) (Int.toNat 0) (PKz, (0 : Int))).1.2.2.2.2.1 (List.getD (List.getD x5 (Int.toNat 0) []) (Int.toNat 0) (PKz, (0 : Int))).1.2.2.2.2.2.1 (List.getD (List.getD x5 (Int.toNat 0) []) (Int.toNat 0) (PKz, (0 : Int))).1.2.2.2.2.2.2.1 (List.getD (List.getD x5 (Int.toNat 0) []) (Int.toNat 0) (PKz, (0 : Int))).1.2.2.2.2.2.2.2)) with
            | true =>
             rfl
            | false =>
             rfl
          | false =>
           rfl
       | false =>
        rfl
     | false =>
      rfl
   | false =>
    rfl
 | false =>
  rfl
noncomputable def sv8 : OrcS := fun al H => dC al fun y1 l2 => dA y1 fun y3 => dCI .i64 y3 fun x0 l4 => dCI .i64 l4 fun x1 l5 => dCI .i64 l5 fun x2 l6 => dCI .i64 l6 fun x3 l7 => dCI .i64 l7 fun x4 l8 => dC l8 fun y9 l10 => dD 51 (.list 55 QDy) y9 fun x5 => dCI .i64 l10 fun x6 l11 => dCI .i64 l11 fun x7 l12 => dCI .i64 l12 fun x8 l13 => dCI .i64 l13 fun x9 l14 => dCI .i64 l14 fun A l15 => dCI .i64 l15 fun B l16 => dCI .i64 l16 fun C l17 => dCI .i64 l17 fun D l18 => dCI .u64 l18 fun E l19 => dE l19 <| dC l2 fun y20 l21 => dS y20 fun y22 => dInt .i64 y22 fun F => dE l21 <| dE H <|  some [(ok (v8 x0 x1 x2 x3 x4 x5 x6 x7 x8 x9 A B C D E F), [.sc (.bool ((val (v8 x0 x1 x2 x3 x4 x5 x6 x7 x8 x9 A B C D E F))))], [])]
theorem wv8 : NewOrc Try.prog dOk base o45 t45 (8, sv8) := by
 intro al H q hq0 rs H2 h2
 have hq : sv8 al H = some q := hq0
 clear hq0
 unfold sv8 at hq
 obtain ⟨_, _, rfl, g1⟩ := dC_some hq
 obtain ⟨_, rfl, g2⟩ := dA_some g1
 obtain ⟨_, _, _, _, _, _, rfl, g3⟩ := dJ5 g2
 obtain ⟨_, _, rfl, g4⟩ := dC_some g3
 obtain ⟨_, rfl, g5⟩ := dD_some g4
 obtain ⟨_, _, _, _, _, _, _, _, _, _, rfl, g6⟩ := dJ9 g5
 obtain ⟨rfl, g7⟩ := dE_some g6
 obtain ⟨_, _, rfl, g8⟩ := dC_some g7
 obtain ⟨_, rfl, g9⟩ := dS_some g8
 obtain ⟨_, rfl, g10⟩ := dInt_some g9
 obtain ⟨rfl, g11⟩ := dE_some g10
 obtain ⟨rfl, g12⟩ := dE_some g11
 cases g12
 obtain ⟨hc0, rfl, rfl⟩ := pickR_one h2
 exact ⟨41, (fn_eq (by kernel_rfl)).trans ((ev8 _ _ _ _ _ _ _ _ _ _ _ _ _ _ _ _).trans (bind_of (ok_val hc0)))⟩
noncomputable def o46 : OrcT := (8, sv8) :: o45
noncomputable def t46 : TellT := t45
noncomputable abbrev tn46 : FuncId → TAn := mkTn base o46 t46
theorem ok46 : TnOk Try.prog tn46 (mkA base) dOk := by
 have h0 : TnOk Try.prog (mkTn base o45 t45) (mkA base) dOk := ok45
 have h1 := tn_orc h0 h0 (p := (8, sv8)) wv8
 exact h1
end Go.Proofs.Ythbinbcgjhnijaa
