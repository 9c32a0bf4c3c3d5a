/- What some functions and loops come to: printed and checked. Written by a program of ours. -/
import Derived.Test.YthbinbcgjhnijaaG2
set_option linter.all false
set_option maxRecDepth 1000000
set_option maxHeartbeats 4000000
namespace Go.Proofs.Ythbinbcgjhnijaa
open Go Go.AM Go.TM Go.Proofs
noncomputable def Laj : Nat → (List (PKt × Int)) → Int → Int → Option (Bool ⊕ Unit)
 | 0, _, _, _ => none
 | n + 1, x0, x1, x2 => (cond (decide (x2 < (x0.length : Int))) (cond (decide (0 ≤ x2)) (cond (ok (v27 (List.getD x0 x2.toNat (PKz, (0 : Int))).1.1 (List.getD x0 x2.toNat (PKz, (0 : Int))).1.2.1 (List.getD x0 x2.toNat (PKz, (0 : Int))).1.2.2.1 (List.getD x0 x2.toNat (PKz, (0 : Int))).1.2.2.2.1 (List.getD x0 x2.toNat (PKz, (0 : Int))).1.2.2.2.2.1 (List.getD x0 x2.toNat (PKz, (0 : Int))).1.2.2.2.2.2.1 (List.getD x0 x2.toNat (PKz, (0 : Int))).1.2.2.2.2.2.2.1 (List.getD x0 x2.toNat (PKz, (0 : Int))).1.2.2.2.2.2.2.2)) (cond (!val (v27 (List.getD x0 x2.toNat (PKz, (0 : Int))).1.1 (List.getD x0 x2.toNat (PKz, (0 : Int))).1.2.1 (List.getD x0 x2.toNat (PKz, (0 : Int))).1.2.2.1 (List.getD x0 x2.toNat (PKz, (0 : Int))).1.2.2.2.1 (List.getD x0 x2.toNat (PKz, (0 : Int))).1.2.2.2.2.1 (List.getD x0 x2.toNat (PKz, (0 : Int))).1.2.2.2.2.2.1 (List.getD x0 x2.toNat (PKz, (0 : Int))).1.2.2.2.2.2.2.1 (List.getD x0 x2.toNat (PKz, (0 : Int))).1.2.2.2.2.2.2.2)) (some (.inl (false))) (cond (ok (v26 (List.getD x0 x2.toNat (PKz, (0 : Int))).2)) (cond (!val (v26 (List.getD x0 x2.toNat (PKz, (0 : Int))).2)) (some (.inl (false))) (cond (decide ((List.getD x0 x2.toNat (PKz, (0 : Int))).2 > x1)) (some (.inl (false))) (cond (decide (x2 > 0)) (cond (decide (0 ≤ IntKind.wrap IntKind.i64 (x2 - (1 : Int)))) (cond (decide (IntKind.wrap IntKind.i64 (x2 - (1 : Int)) < (x0.length : Int))) (cond (decide ((List.getD x0 x2.toNat (PKz, (0 : Int))).2 < (List.getD x0 (IntKind.wrap IntKind.i64 (x2 - (1 : Int))).toNat (PKz, (0 : Int))).2)) (some (.inl (false))) (Laj n x0 x1 (IntKind.wrap IntKind.i64 (x2 + (1 : Int))))) none) none) (Laj n x0 x1 (IntKind.wrap IntKind.i64 (x2 + (1 : Int))))))) none)) none) none) (some (.inr ())))
theorem qLaj : type_of% @Laj.eq_2 := @Laj.eq_2
noncomputable def xLaj (x0 : (List (PKt × Int))) (x1 x2 : Int) : (Bool ⊕ Unit) → Ex × CS := fun r => match r with | .inl a0 => (.ret, { sl := [(4, .v (.sc (.bool (a0))))], lo := [], h := [], n0 := 0, w := true }) | .inr b0 => ((.exit 0), { sl := [], lo := [], h := [], n0 := 0, w := false })
theorem bLaj (k : Nat) (cN : CS → Option (Ex × CS)) (cX : Ex → CS → Option (Ex × CS)) (x0 : (List (PKt × Int))) (x1 x2 : Int) : xl Try.prog (tn34 43) (TM.evF Try.prog (tn34) dOk (k + 40)) dOk (k + 40) (zh Try.prog (tn0 43) 43 0) 0 0 { sl := [(0, .v (.sc (.d 55 QDy x0))), (1, .v (.sc (I4 x1))), (5, .v (.sc (I4 x2)))], lo := [], h := [], n0 := 0, w := false } cN cX = (cond (decide (x2 < (x0.length : Int))) (cond (decide (0 ≤ x2)) (cond (decide (x2 < (x0.length : Int))) (cond (ok (v27 (List.getD x0 x2.toNat (PKz, (0 : Int))).1.1 (List.getD x0 x2.toNat (PKz, (0 : Int))).1.2.1 (List.getD x0 x2.toNat (PKz, (0 : Int))).1.2.2.1 (List.getD x0 x2.toNat (PKz, (0 : Int))).1.2.2.2.1 (List.getD x0 x2.toNat (PKz, (0 : Int))).1.2.2.2.2.1 (List.getD x0 x2.toNat (PKz, (0 : Int))).1.2.2.2.2.2.1 (List.getD x0 x2.toNat (PKz, (0 : Int))).1.2.2.2.2.2.2.1 (List.getD x0 x2.toNat (PKz, (0 : Int))).1.2.2.2.2.2.2.2)) (cond (!val (v27 (List.getD x0 x2.toNat (PKz, (0 : Int))).1.1 (List.getD x0 x2.toNat (PKz, (0 : Int))).1.2.1 (List.getD x0 x2.toNat (PKz, (0 : Int))).1.2.2.1 (List.getD x0 x2.toNat (PKz, (0 : Int))).1.2.2.2.1 (List.getD x0 x2.toNat (PKz, (0 : Int))).1.2.2.2.2.1 (List.getD x0 x2.toNat (PKz, (0 : Int))).1.2.2.2.2.2.1 (List.getD x0 x2.toNat (PKz, (0 : Int))).1.2.2.2.2.2.2.1 (List.getD x0 x2.toNat (PKz, (0 : Int))).1.2.2.2.2.2.2.2)) (cX .ret { sl := [(4, .v (.sc (.bool (false))))], lo := [], h := [], n0 := 0, w := true }) (cond (decide (0 ≤ x2)) (cond (decide (x2 < (x0.length : Int))) (cond (ok (v26 (List.getD x0 x2.toNat (PKz, (0 : Int))).2)) (cond (!val (v26 (List.getD x0 x2.toNat (PKz, (0 : Int))).2)) (cX .ret { sl := [(4, .v (.sc (.bool (false))))], lo := [], h := [], n0 := 0, w := true }) (cond (decide (0 ≤ x2)) (cond (decide (x2 < (x0.length : Int))) (cond (decide ((List.getD x0 x2.toNat (PKz, (0 : Int))).2 > x1)) (cX .ret { sl := [(4, .v (.sc (.bool (false))))], lo := [], h := [], n0 := 0, w := true }) (cond (decide (x2 > 0)) (cond (decide (0 ≤ x2)) (cond (decide (x2 < (x0.length : Int))) (cond (decide (0 ≤ IntKind.wrap IntKind.i64 (x2 - (1 : Int)))) (cond (decide (IntKind.wrap IntKind.i64 (x2 - (1 : Int)) < (x0.length : Int))) (cond (decide ((List.getD x0 x2.toNat (PKz, (0 : Int))).2 < (List.getD x0 (IntKind.wrap IntKind.i64 (x2 - (1 : Int))).toNat (PKz, (0 : Int))).2)) (cX .ret { sl := [(4, .v (.sc (.bool (false))))], lo := [], h := [], n0 := 0, w := true }) (cN { sl := [(0, .v (.sc (.d 55 QDy x0))), (1, .v (.sc (I4 x1))), (5, .v (.sc (I4 (IntKind.wrap IntKind.i64 (x2 + (1 : Int))))))], lo := [], h := [], n0 := 0, w := false })) none) none) none) none) (cN { sl := [(0, .v (.sc (.d 55 QDy x0))), (1, .v (.sc (I4 x1))), (5, .v (.sc (I4 (IntKind.wrap IntKind.i64 (x2 + (1 : Int))))))], lo := [], h := [], n0 := 0, w := false }))) none) none)) none) none) none)) none) none) none) (cX (.exit 0) { sl := [], lo := [], h := [], n0 := 0, w := false })) := by kernel_rfl
theorem lLaj (k m : Nat) : ∀ (n : Nat) (x0 : (List (PKt × Int))) (x1 x2 : Int) (r : (Bool ⊕ Unit)), Laj n x0 x1 x2 = some r → wi Try.prog (tn34 43) (TM.evF Try.prog (tn34) dOk (k + 40)) dOk (k + 40) (zh Try.prog (tn0 43) 43 0) 0 0 (n + m) { sl := [(0, .v (.sc (.d 55 QDy x0))), (1, .v (.sc (I4 x1))), (5, .v (.sc (I4 x2)))], lo := [], h := [], n0 := 0, w := false } = some (xLaj x0 x1 x2 r) := by
 intro n
 induction n with
 | zero => intro _ _ _ r h; cases h
 | succ n ih =>
  intro x0 x1 x2 r
  rw [show n + 1 + m = n + m + 1 by omega, xt, bLaj, qLaj]
  cases (decide (x2 < (x0.length : Int))) with
  | true =>
   cases (decide (0 ≤ x2)) with
   | true =>
    cases (ok (v27 (List.getD x0 x2.toNat (PKz, (0 : Int))).1.1 (List.getD x0 x2.toNat (PKz, (0 : Int))).1.2.1 (List.getD x0 x2.toNat (PKz, (0 : Int))).1.2.2.1 (List.getD x0 x2.toNat (PKz, (0 : Int))).1.2.2.2.1 (List.getD x0 x2.toNat (PKz, (0 : Int))).1.2.2.2.2.1 (List.getD x0 x2.toNat (PKz, (0 : Int))).1.2.2.2.2.2.1 (List.getD x0 x2.toNat (PKz, (0 : Int))).1.2.2.2.2.2.2.1 (List.getD x0 x2.toNat (PKz, (0 : Int))).1.2.2.2.2.2.2.2)) with
    | true =>
     cases (!val (v27 (List.getD x0 x2.toNat (PKz, (0 : Int))).1.1 (List.getD x0 x2.toNat (PKz, (0 : Int))).1.2.1 (List.getD x0 x2.toNat (PKz, (0 : Int))).1.2.2.1 (List.getD x0 x2.toNat (PKz, (0 : Int))).1.2.2.2.1 (List.getD x0 x2.toNat (PKz, (0 : Int))).1.2.2.2.2.1 (List.getD x0 x2.toNat (PKz, (0 : Int))).1.2.2.2.2.2.1 (List.getD x0 x2.toNat (PKz, (0 : Int))).1.2.2.2.2.2.2.1 (List.getD x0 x2.toNat (PKz, (0 : Int))).1.2.2.2.2.2.2.2)) with
     | true =>
      intro h; cases h; rfl
     | false =>
      cases (ok (v26 (List.getD x0 x2.toNat (PKz, (0 : Int))).2)) with
      | true =>
       cases (!val (v26 (List.getD x0 x2.toNat (PKz, (0 : Int))).2)) with
       | true =>
        intro h; cases h; rfl
       | false =>
        cases (decide ((List.getD x0 x2.toNat (PKz, (0 : Int))).2 > x1)) with
        | true =>
         intro h; cases h; rfl
        | false =>
         cases (decide (x2 > 0)) with
         | true =>
          cases (decide (0 ≤ IntKind.wrap IntKind.i64 (x2 - (1 : Int)))) with
          | true =>
           cases (decide (IntKind.wrap IntKind.i64 (x2 - (1 : Int)) < (x0.length : Int))) with
           | true =>
            cases (decide ((List.getD x0 x2.toNat (PKz, (0 : Int))).2 < (List.getD x0 (IntKind.wrap IntKind.i64 (x2 - (1 : Int))).toNat (PKz, (0 : Int))).2)) with
            | true =>
             intro h; cases h; rfl
            | false =>
             exact ih _ _ _ r
           | false =>
            intro h; cases h
          | false =>
           intro h; cases h
         | false =>
          exact ih _ _ _ r
      | false =>
       intro h; cases h
    | false =>
     intro h; cases h
   | false =>
    intro h; cases h
  | false =>
   intro h; cases h; rfl
noncomputable def sLaj : TellS := fun S => dCS 0 S fun y1 y2 y3 => dSs 0 y1 fun y5 l4 => dD 55 QDy y5 fun x0 => dSI 1 .i64 l4 fun x1 l6 => dSI 5 .i64 l6 fun x2 l7 => dE l7 <| dE y2 <| dE y3 <|  some [(isL (Laj FU x0 x1 x2), .ret, { sl := [(4, .v (.sc (.bool ((zb (Laj FU x0 x1 x2))))))], lo := [], h := [], n0 := 0, w := true }), (ok (za (Laj FU x0 x1 x2)), (.exit 0), { sl := [], lo := [], h := [], n0 := 0, w := false })]
theorem wLaj : zG Try.prog dOk base o34 t34 ((43, 0), sLaj) := by
 refine ⟨.loop (zh Try.prog (tn0 43) 43 0), 0, by kernel_rfl, ?_⟩
 intro S alts e S' h10 h2
 have h1 : sLaj S = some alts := h10
 clear h10
 unfold sLaj at h1
 obtain ⟨_, _, _, rfl, g1⟩ := yN h1
 obtain ⟨_, _, rfl, g2⟩ := yf g1
 obtain ⟨_, rfl, g3⟩ := dDq g2
 obtain ⟨_, _, rfl, g4⟩ := xp g3
 obtain ⟨_, _, rfl, g5⟩ := xp g4
 obtain ⟨rfl, g6⟩ := dEq g5
 obtain ⟨rfl, g7⟩ := dEq g6
 obtain ⟨rfl, g8⟩ := dEq g7
 cases g8
 rcases yq h2 with ⟨hc0, rfl, rfl⟩ | h2
 · exact ⟨FU + 40, (zD rfl).trans (lLaj FU 40 FU _ _ _ _ (yO hc0))⟩
 obtain ⟨hc1, rfl, rfl⟩ := zH h2
 exact ⟨FU + 40, (zD rfl).trans (lLaj FU 40 FU _ _ _ _ (yp (zk hc1)))⟩
noncomputable def o35 : OrcT := o34
noncomputable def t35 : TellT := ((43, 0), sLaj) :: t34
noncomputable abbrev tn35 : FuncId → TAn := zj base o35 t35
theorem ok35 : TnOk Try.prog tn35 (mkA base) dOk := by
 have h0 : TnOk Try.prog (tn34) (mkA base) dOk := ok34
 have h1 := zK h0 h0 (p := ((43, 0), sLaj)) wLaj
 exact h1
noncomputable def v43 (x0 : (List (PKt × Int))) (x1 : Int) : Option Bool := (cond (isL (Laj FU x0 x1 0)) (some (zb (Laj FU x0 x1 0))) (cond (ok (za (Laj FU x0 x1 0))) (some (true)) none))
theorem ev43 (x0 : (List (PKt × Int))) (x1 : Int) : zJ Try.prog (tn35 43) (TM.evF Try.prog (tn35) dOk 40) dOk 40 43 [.sc (.d 55 QDy x0), .sc (I4 x1)] [] = (v43 x0 x1).bind fun r => some ([.sc (.bool (r))], []) := by
 refine Eq.trans (b := (cond (isL (Laj FU x0 x1 0)) (some ([.sc (.bool (zb (Laj FU x0 x1 0)))], [])) (cond (ok (za (Laj FU x0 x1 0))) (some ([.sc (.bool (true))], [])) none))) (by kernel_rfl) ?_
 unfold v43
 refine zc ?_ ?_
 rfl
 refine zc ?_ ?_
 rfl
 rfl
noncomputable def sv43 : OrcS := fun al H => dC al fun y1 l2 => dS y1 fun y3 => dD 55 QDy y3 fun x0 => dC l2 fun y4 l5 => dS y4 fun y6 => yX .i64 y6 fun x1 => dE l5 <| dE H <|  some [(ok (v43 x0 x1), [.sc (.bool ((val (v43 x0 x1))))], [])]
theorem wv43 : zI Try.prog dOk base o35 t35 (43, sv43) := by
 intro al H q hq0 rs H2 h2
 have hq : sv43 al H = some q := hq0
 clear hq0
 unfold sv43 at hq
 obtain ⟨_, _, rfl, g1⟩ := dCq hq
 obtain ⟨_, rfl, g2⟩ := dSq g1
 obtain ⟨_, rfl, g3⟩ := dDq g2
 obtain ⟨_, _, rfl, g4⟩ := dCq g3
 obtain ⟨_, rfl, g5⟩ := dSq g4
 obtain ⟨_, rfl, g6⟩ := yS g5
 obtain ⟨rfl, g7⟩ := dEq g6
 obtain ⟨rfl, g8⟩ := dEq g7
 cases g8
 obtain ⟨hc0, rfl, rfl⟩ := zq h2
 exact ⟨41, (zW (by kernel_rfl)).trans ((ev43 _ _).trans (zE (zk hc0)))⟩
noncomputable def o36 : OrcT := (43, sv43) :: o35
noncomputable def t36 : TellT := t35
noncomputable abbrev tn36 : FuncId → TAn := zj base o36 t36
theorem ok36 : TnOk Try.prog tn36 (mkA base) dOk := by
 have h0 : TnOk Try.prog (tn35) (mkA base) dOk := ok35
 have h1 := zM h0 h0 (p := (43, sv43)) wv43
 exact h1
noncomputable def Lan (x0 x1 x2 x3 x4 : Int) (x5 : (List (List (PKt × Int)))) (x6 x7 x8 x9 A B C D E : Int) : Option Bool := (cond (decide (0 < (x5.length : Int))) (cond (decide ((↑(List.length (List.getD x5 (Int.toNat 0) [])) : Int) ≤ x4)) (cond (ok (v43 (List.getD x5 (Int.toNat 0) []) D)) (some (val (v43 (List.getD x5 (Int.toNat 0) []) D))) none) (some (false))) none)
noncomputable def xLan (x0 x1 x2 x3 x4 : Int) (x5 : (List (List (PKt × Int)))) (x6 x7 x8 x9 A B C D E : Int) : Bool → Ex × CS := fun r => (.ret, { sl := [(2, .v (.sc (.bool (r))))], lo := [], h := [], n0 := 0, w := true })
theorem bLan (k : Nat) (cX : Ex → CS → Option (Ex × CS)) (x0 x1 x2 x3 x4 : Int) (x5 : (List (List (PKt × Int)))) (x6 x7 x8 x9 A B C D E : Int) : zo Try.prog (tn36 19) (TM.evF Try.prog (tn36) dOk (k + 40)) dOk (k + 40) (zh Try.prog (tn0 19) 19 92) 0 92 { sl := [(1, .l 1 0)], lo := [(1, [I4 (x0), I4 (x1), I4 (x2), I4 (x3), I4 (x4), .d 51 (.list 55 QDy) (x5), I4 (x6), I4 (x7), I4 (x8), I4 (x9), I4 (A), I4 (B), I4 (C), I4 (D), .int .u64 (E)])], h := [], n0 := 0, w := false } cX = (cond (decide (0 < (x5.length : Int))) (cond (decide ((↑(List.length (List.getD x5 (Int.toNat 0) [])) : Int) ≤ x4)) (cond (decide (0 < (x5.length : Int))) (cond (ok (v43 (List.getD x5 (Int.toNat 0) []) D)) (cX .ret { sl := [(2, .v (.sc (.bool (val (v43 (List.getD x5 (Int.toNat 0) []) D)))))], lo := [], h := [], n0 := 0, w := true }) none) none) (cX .ret { sl := [(2, .v (.sc (.bool (false))))], lo := [], h := [], n0 := 0, w := true })) none) := by kernel_rfl
theorem lLan (k : Nat) (x0 x1 x2 x3 x4 : Int) (x5 : (List (List (PKt × Int)))) (x6 x7 x8 x9 A B C D E : Int) (r : Bool) : Lan x0 x1 x2 x3 x4 x5 x6 x7 x8 x9 A B C D E = some r → zo Try.prog (tn36 19) (TM.evF Try.prog (tn36) dOk (k + 40)) dOk (k + 40) (zh Try.prog (tn0 19) 19 92) 0 92 { sl := [(1, .l 1 0)], lo := [(1, [I4 (x0), I4 (x1), I4 (x2), I4 (x3), I4 (x4), .d 51 (.list 55 QDy) (x5), I4 (x6), I4 (x7), I4 (x8), I4 (x9), I4 (A), I4 (B), I4 (C), I4 (D), .int .u64 (E)])], h := [], n0 := 0, w := false } (fun e s => some (e, s)) = some (xLan x0 x1 x2 x3 x4 x5 x6 x7 x8 x9 A B C D E r) := by
 rw [bLan]
 unfold Lan
 cases (decide (0 < (x5.length : Int))) with
 | true =>
  cases (decide ((↑(List.length (List.getD x5 (Int.toNat 0) [])) : Int) ≤ x4)) with
  | true =>
   cases (ok (v43 (List.getD x5 (Int.toNat 0) []) D)) with
   | true =>
    intro h; cases h; rfl
   | false =>
    intro h; cases h
  | false =>
   intro h; cases h; rfl
 | false =>
  intro h; cases h
noncomputable def sLan : TellS := fun S => dCS 0 S fun y1 y2 y3 => dSt 1 y1 fun y5 l4 => dL 1 0 y5 <| dE l4 <| dLo 1 y2 fun y6 l7 => dK y6 fun x0 l8 => dK l8 fun x1 l9 => dK l9 fun x2 l10 => dK l10 fun x3 l11 => dK l11 fun x4 l12 => dC l12 fun y13 l14 => dD 51 (.list 55 QDy) y13 fun x5 => dK l14 fun x6 l15 => dK l15 fun x7 l16 => dK l16 fun x8 l17 => dK l17 fun x9 l18 => dK l18 fun A l19 => dK l19 fun B l20 => dK l20 fun C l21 => dK l21 fun D l22 => dCI .u64 l22 fun E l23 => dE l23 <| dE l7 <| dE y3 <|  some [(ok (Lan x0 x1 x2 x3 x4 x5 x6 x7 x8 x9 A B C D E), .ret, { sl := [(2, .v (.sc (.bool ((val (Lan x0 x1 x2 x3 x4 x5 x6 x7 x8 x9 A B C D E))))))], lo := [], h := [], n0 := 0, w := true })]
theorem wLan : zG Try.prog dOk base o36 t36 ((19, 92), sLan) := by
 refine ⟨(zh Try.prog (tn0 19) 19 92), 0, by kernel_rfl, ?_⟩
 intro S alts e S' h10 h2
 have h1 : sLan S = some alts := h10
 clear h10
 unfold sLan at h1
 obtain ⟨_, _, _, rfl, g1⟩ := yN h1
 obtain ⟨_, _, rfl, g2⟩ := zd g1
 obtain ⟨rfl, g3⟩ := dLq g2
 obtain ⟨rfl, g4⟩ := dEq g3
 obtain ⟨_, _, rfl, g5⟩ := zQ g4
 obtain ⟨_, _, _, _, _, _, rfl, g6⟩ := dJ5 g5
 obtain ⟨_, _, rfl, g7⟩ := dCq g6
 obtain ⟨_, rfl, g8⟩ := dDq g7
 obtain ⟨_, _, _, _, _, _, _, _, _, _, rfl, g9⟩ := dJ9 g8
 obtain ⟨rfl, g10⟩ := dEq g9
 obtain ⟨rfl, g11⟩ := dEq g10
 obtain ⟨rfl, g12⟩ := dEq g11
 cases g12
 obtain ⟨hc0, rfl, rfl⟩ := zH h2
 exact ⟨0 + 40, (zy rfl).trans (lLan 0 _ _ _ _ _ _ _ _ _ _ _ _ _ _ _ _ (zk hc0))⟩
noncomputable def o37 : OrcT := o36
noncomputable def t37 : TellT := ((19, 92), sLan) :: t36
noncomputable abbrev tn37 : FuncId → TAn := zj base o37 t37
theorem ok37 : TnOk Try.prog tn37 (mkA base) dOk := by
 have h0 : TnOk Try.prog (tn36) (mkA base) dOk := ok36
 have h1 := zK h0 h0 (p := ((19, 92), sLan)) wLan
 exact h1
noncomputable def Lay (x0 x1 x2 x3 x4 : Int) (x5 : (List (List (PKt × Int)))) (x6 x7 x8 x9 A B C D E : Int) : Option Bool := (cond (x8 != 0) (some (false)) (cond (x9 != 0) (some (false)) (cond (A != 0) (some (false)) (cond (B != 0) (some (false)) (cond (C != 0) (some (false)) (cond (ok (Lan x0 x1 x2 x3 x4 x5 x6 x7 x8 x9 A B C D E)) (some (val (Lan x0 x1 x2 x3 x4 x5 x6 x7 x8 x9 A B C D E))) none))))))
noncomputable def xLay (x0 x1 x2 x3 x4 : Int) (x5 : (List (List (PKt × Int)))) (x6 x7 x8 x9 A B C D E : Int) : Bool → Ex × CS := fun r => (.ret, { sl := [(2, .v (.sc (.bool (r))))], lo := [], h := [], n0 := 0, w := true })
theorem bLay (k : Nat) (cX : Ex → CS → Option (Ex × CS)) (x0 x1 x2 x3 x4 : Int) (x5 : (List (List (PKt × Int)))) (x6 x7 x8 x9 A B C D E : Int) : zo Try.prog (tn37 19) (TM.evF Try.prog (tn37) dOk (k + 40)) dOk (k + 40) (zh Try.prog (tn0 19) 19 52) 0 52 { sl := [(1, .l 1 0), (3, .l 3 0), (5, .l 1 0), (7, .l 3 0), (11, .l 3 1), (16, .l 3 1), (21, .l 3 2), (26, .l 3 2), (31, .l 3 3), (36, .l 1 4), (41, .l 1 4), (46, .l 1 5), (52, .l 1 14), (57, .l 1 6), (58, .l 1 13), (63, .l 1 6), (64, .l 1 6), (68, .l 1 6), (69, .l 1 6), (71, .l 1 6), (72, .l 1 13), (74, .l 3 2), (81, .l 1 6), (82, .l 1 7), (87, .l 1 6), (88, .l 1 7), (93, .l 1 6), (94, .l 1 6), (98, .l 1 6), (99, .l 1 7)], lo := [(1, [I4 (x0), I4 (x1), I4 (x2), I4 (x3), I4 (x4), .d 51 (.list 55 QDy) (x5), I4 (x6), I4 (x7), I4 (x8), I4 (x9), I4 (A), I4 (B), I4 (C), I4 (D), .int .u64 (E)])], h := [], n0 := 0, w := false } cX = (cond (x8 != 0) (cX .ret { sl := [(2, .v (.sc (.bool (false))))], lo := [], h := [], n0 := 0, w := true }) (cond (x9 != 0) (cX .ret { sl := [(2, .v (.sc (.bool (false))))], lo := [], h := [], n0 := 0, w := true }) (cond (A != 0) (cX .ret { sl := [(2, .v (.sc (.bool (false))))], lo := [], h := [], n0 := 0, w := true }) (cond (B != 0) (cX .ret { sl := [(2, .v (.sc (.bool (false))))], lo := [], h := [], n0 := 0, w := true }) (cond (C != 0) (cX .ret { sl := [(2, .v (.sc (.bool (false))))], lo := [], h := [], n0 := 0, w := true }) (cond (ok (Lan x0 x1 x2 x3 x4 x5 x6 x7 x8 x9 A B C D E)) (cX .ret { sl := [(2, .v (.sc (.bool (val (Lan x0 x1 x2 x3 x4 x5 x6 x7 x8 x9 A B C D E)))))], lo := [], h := [], n0 := 0, w := true }) none)))))) := by kernel_rfl
theorem lLay (k : Nat) (x0 x1 x2 x3 x4 : Int) (x5 : (List (List (PKt × Int)))) (x6 x7 x8 x9 A B C D E : Int) (r : Bool) : Lay x0 x1 x2 x3 x4 x5 x6 x7 x8 x9 A B C D E = some r → zo Try.prog (tn37 19) (TM.evF Try.prog (tn37) dOk (k + 40)) dOk (k + 40) (zh Try.prog (tn0 19) 19 52) 0 52 { sl := [(1, .l 1 0), (3, .l 3 0), (5, .l 1 0), (7, .l 3 0), (11, .l 3 1), (16, .l 3 1), (21, .l 3 2), (26, .l 3 2), (31, .l 3 3), (36, .l 1 4), (41, .l 1 4), (46, .l 1 5), (52, .l 1 14), (57, .l 1 6), (58, .l 1 13), (63, .l 1 6), (64, .l 1 6), (68, .l 1 6), (69, .l 1 6), (71, .l 1 6), (72, .l 1 13), (74, .l 3 2), (81, .l 1 6), (82, .l 1 7), (87, .l 1 6), (88, .l 1 7), (93, .l 1 6), (94, .l 1 6), (98, .l 1 6), (99, .l 1 7)], lo := [(1, [I4 (x0), I4 (x1), I4 (x2), I4 (x3), I4 (x4), .d 51 (.list 55 QDy) (x5), I4 (x6), I4 (x7), I4 (x8), I4 (x9), I4 (A), I4 (B), I4 (C), I4 (D), .int .u64 (E)])], h := [], n0 := 0, w := false } (fun e s => some (e, s)) = some (xLay x0 x1 x2 x3 x4 x5 x6 x7 x8 x9 A B C D E r) := by
 rw [bLay]
 unfold Lay
 refine ze ?_ ?_
 intro h; cases h; rfl
 refine ze ?_ ?_
 intro h; cases h; rfl
 refine ze ?_ ?_
 intro h; cases h; rfl
 refine ze ?_ ?_
 intro h; cases h; rfl
 refine ze ?_ ?_
 intro h; cases h; rfl
 refine ze ?_ ?_
 intro h; cases h; rfl
 intro h; cases h
noncomputable def sLay : TellS := fun S => dCS 0 S fun y1 y2 y3 => dSt 1 y1 fun y5 l4 => dL 1 0 y5 <| dSt 3 l4 fun y7 l6 => dL 3 0 y7 <| dSt 5 l6 fun y9 l8 => dL 1 0 y9 <| dSt 7 l8 fun y11 l10 => dL 3 0 y11 <| dSt 11 l10 fun y13 l12 => dL 3 1 y13 <| dSt 16 l12 fun y15 l14 => dL 3 1 y15 <| dSt 21 l14 fun y17 l16 => dL 3 2 y17 <| dSt 26 l16 fun y19 l18 => dL 3 2 y19 <| dSt 31 l18 fun y21 l20 => dL 3 3 y21 <| dSt 36 l20 fun y23 l22 => dL 1 4 y23 <| dSt 41 l22 fun y25 l24 => dL 1 4 y25 <| dSt 46 l24 fun y27 l26 => dL 1 5 y27 <| dSt 52 l26 fun y29 l28 => dL 1 14 y29 <| dSt 57 l28 fun y31 l30 => dL 1 6 y31 <| dSt 58 l30 fun y33 l32 => dL 1 13 y33 <| dSt 63 l32 fun y35 l34 => dL 1 6 y35 <| dSt 64 l34 fun y37 l36 => dL 1 6 y37 <| dSt 68 l36 fun y39 l38 => dL 1 6 y39 <| dSt 69 l38 fun y41 l40 => dL 1 6 y41 <| dSt 71 l40 fun y43 l42 => dL 1 6 y43 <| dSt 72 l42 fun y45 l44 => dL 1 13 y45 <| dSt 74 l44 fun y47 l46 => dL 3 2 y47 <| dSt 81 l46 fun y49 l48 => dL 1 6 y49 <| dSt 82 l48 fun y51 l50 => dL 1 7 y51 <| dSt 87 l50 fun y53 l52 => dL 1 6 y53 <| dSt 88 l52 fun y55 l54 => dL 1 7 y55 <| dSt 93 l54 fun y57 l56 => dL 1 6 y57 <| dSt 94 l56 fun y59 l58 => dL 1 6 y59 <| dSt 98 l58 fun y61 l60 => dL 1 6 y61 <| dSt 99 l60 fun y63 l62 => dL 1 7 y63 <| dE l62 <| dLo 1 y2 fun y64 l65 => dK y64 fun x0 l66 => dK l66 fun x1 l67 => dK l67 fun x2 l68 => dK l68 fun x3 l69 => dK l69 fun x4 l70 => dC l70 fun y71 l72 => dD 51 (.list 55 QDy) y71 fun x5 => dK l72 fun x6 l73 => dK l73 fun x7 l74 => dK l74 fun x8 l75 => dK l75 fun x9 l76 => dK l76 fun A l77 => dK l77 fun B l78 => dK l78 fun C l79 => dK l79 fun D l80 => dCI .u64 l80 fun E l81 => dE l81 <| dE l65 <| dE y3 <|  some [(ok (Lay x0 x1 x2 x3 x4 x5 x6 x7 x8 x9 A B C D E), .ret, { sl := [(2, .v (.sc (.bool ((val (Lay x0 x1 x2 x3 x4 x5 x6 x7 x8 x9 A B C D E))))))], lo := [], h := [], n0 := 0, w := true })]
theorem wLay : zG Try.prog dOk base o37 t37 ((19, 52), sLay) := by
 refine ⟨(zh Try.prog (tn0 19) 19 52), 0, by kernel_rfl, ?_⟩
 intro S alts e S' h10 h2
 have h1 : sLay S = some alts := h10
 clear h10
 unfold sLay at h1
 replace h1 := yN h1; obtain ⟨_, _, _, rfl, h1⟩ := h1
 replace h1 := zd h1; obtain ⟨_, _, rfl, h1⟩ := h1
 replace h1 := dLq h1; obtain ⟨rfl, h1⟩ := h1
 replace h1 := zd h1; obtain ⟨_, _, rfl, h1⟩ := h1
 replace h1 := dLq h1; obtain ⟨rfl, h1⟩ := h1
 replace h1 := zd h1; obtain ⟨_, _, rfl, h1⟩ := h1
 replace h1 := dLq h1; obtain ⟨rfl, h1⟩ := h1
 replace h1 := zd h1; obtain ⟨_, _, rfl, h1⟩ := h1
 replace h1 := dLq h1; obtain ⟨rfl, h1⟩ := h1
 replace h1 := zd h1; obtain ⟨_, _, rfl, h1⟩ := h1
 replace h1 := dLq h1; obtain ⟨rfl, h1⟩ := h1
 replace h1 := zd h1; obtain ⟨_, _, rfl, h1⟩ := h1
 replace h1 := dLq h1; obtain ⟨rfl, h1⟩ := h1
 replace h1 := zd h1; obtain ⟨_, _, rfl, h1⟩ := h1
 replace h1 := dLq h1; obtain ⟨rfl, h1⟩ := h1
 replace h1 := zd h1; obtain ⟨_, _, rfl, h1⟩ := h1
 replace h1 := dLq h1; obtain ⟨rfl, h1⟩ := h1
 replace h1 := zd h1; obtain ⟨_, _, rfl, h1⟩ := h1
 replace h1 := dLq h1; obtain ⟨rfl, h1⟩ := h1
 replace h1 := zd h1; obtain ⟨_, _, rfl, h1⟩ := h1
 replace h1 := dLq h1; obtain ⟨rfl, h1⟩ := h1
 replace h1 := zd h1; obtain ⟨_, _, rfl, h1⟩ := h1
 replace h1 := dLq h1; obtain ⟨rfl, h1⟩ := h1
 replace h1 := zd h1; obtain ⟨_, _, rfl, h1⟩ := h1
 replace h1 := dLq h1; obtain ⟨rfl, h1⟩ := h1
 replace h1 := zd h1; obtain ⟨_, _, rfl, h1⟩ := h1
 replace h1 := dLq h1; obtain ⟨rfl, h1⟩ := h1
 replace h1 := zd h1; obtain ⟨_, _, rfl, h1⟩ := h1
 replace h1 := dLq h1; obtain ⟨rfl, h1⟩ := h1
 replace h1 := zd h1; obtain ⟨_, _, rfl, h1⟩ := h1
 replace h1 := dLq h1; obtain ⟨rfl, h1⟩ := h1
 replace h1 := zd h1; obtain ⟨_, _, rfl, h1⟩ := h1
 replace h1 := dLq h1; obtain ⟨rfl, h1⟩ := h1
 replace h1 := zd h1; obtain ⟨_, _, rfl, h1⟩ := h1
 replace h1 := dLq h1; obtain ⟨rfl, h1⟩ := h1
 replace h1 := zd h1; obtain ⟨_, _, rfl, h1⟩ := h1
 replace h1 := dLq h1; obtain ⟨rfl, h1⟩ := h1
 replace h1 := zd h1; obtain ⟨_, _, rfl, h1⟩ := h1
 replace h1 := dLq h1; obtain ⟨rfl, h1⟩ := h1
 replace h1 := zd h1; obtain ⟨_, _, rfl, h1⟩ := h1
 replace h1 := dLq h1; obtain ⟨rfl, h1⟩ := h1
 replace h1 := zd h1; obtain ⟨_, _, rfl, h1⟩ := h1
 replace h1 := dLq h1; obtain ⟨rfl, h1⟩ := h1
 replace h1 := zd h1; obtain ⟨_, _, rfl, h1⟩ := h1
 replace h1 := dLq h1; obtain ⟨rfl, h1⟩ := h1
 replace h1 := zd h1; obtain ⟨_, _, rfl, h1⟩ := h1
 replace h1 := dLq h1; obtain ⟨rfl, h1⟩ := h1
 replace h1 := zd h1; obtain ⟨_, _, rfl, h1⟩ := h1
 replace h1 := dLq h1; obtain ⟨rfl, h1⟩ := h1
 replace h1 := zd h1; obtain ⟨_, _, rfl, h1⟩ := h1
 replace h1 := dLq h1; obtain ⟨rfl, h1⟩ := h1
 replace h1 := zd h1; obtain ⟨_, _, rfl, h1⟩ := h1
 replace h1 := dLq h1; obtain ⟨rfl, h1⟩ := h1
 replace h1 := zd h1; obtain ⟨_, _, rfl, h1⟩ := h1
 replace h1 := dLq h1; obtain ⟨rfl, h1⟩ := h1
 replace h1 := zd h1; obtain ⟨_, _, rfl, h1⟩ := h1
 replace h1 := dLq h1; obtain ⟨rfl, h1⟩ := h1
 replace h1 := zd h1; obtain ⟨_, _, rfl, h1⟩ := h1
 replace h1 := dLq h1; obtain ⟨rfl, h1⟩ := h1
 replace h1 := zd h1; obtain ⟨_, _, rfl, h1⟩ := h1
 replace h1 := dLq h1; obtain ⟨rfl, h1⟩ := h1
 replace h1 := dEq h1; obtain ⟨rfl, h1⟩ := h1
 replace h1 := zQ h1; obtain ⟨_, _, rfl, h1⟩ := h1
 replace h1 := dJ5 h1; obtain ⟨_, _, _, _, _, _, rfl, h1⟩ := h1
 replace h1 := dCq h1; obtain ⟨_, _, rfl, h1⟩ := h1
 replace h1 := dDq h1; obtain ⟨_, rfl, h1⟩ := h1
 replace h1 := dJ9 h1; obtain ⟨_, _, _, _, _, _, _, _, _, _, rfl, h1⟩ := h1
 replace h1 := dEq h1; obtain ⟨rfl, h1⟩ := h1
 replace h1 := dEq h1; obtain ⟨rfl, h1⟩ := h1
 replace h1 := dEq h1; obtain ⟨rfl, h1⟩ := h1
 cases h1
 obtain ⟨hc0, rfl, rfl⟩ := zH h2
 exact ⟨0 + 40, (zy rfl).trans (lLay 0 _ _ _ _ _ _ _ _ _ _ _ _ _ _ _ _ (zk hc0))⟩
noncomputable def Lax (x0 x1 x2 x3 x4 : Int) (x5 : (List (List (PKt × Int)))) (x6 x7 x8 x9 A B C D E : Int) : Option Bool := (cond (x8 != 0) (some (false)) (cond (x9 != 0) (some (false)) (cond (A != 0) (some (false)) (cond (B != 0) (some (false)) (cond (C != 0) (some (false)) (cond (ok (Lan x0 x1 x2 x3 x4 x5 x6 x7 x8 x9 A B C D E)) (some (val (Lan x0 x1 x2 x3 x4 x5 x6 x7 x8 x9 A B C D E))) none))))))
noncomputable def xLax (x0 x1 x2 x3 x4 : Int) (x5 : (List (List (PKt × Int)))) (x6 x7 x8 x9 A B C D E : Int) : Bool → Ex × CS := fun r => (.ret, { sl := [(2, .v (.sc (.bool (r))))], lo := [], h := [], n0 := 0, w := true })
theorem bLax (k : Nat) (cX : Ex → CS → Option (Ex × CS)) (x0 x1 x2 x3 x4 : Int) (x5 : (List (List (PKt × Int)))) (x6 x7 x8 x9 A B C D E : Int) : zo Try.prog (tn37 19) (TM.evF Try.prog (tn37) dOk (k + 40)) dOk (k + 40) (zh Try.prog (tn0 19) 19 52) 0 52 { sl := [(1, .l 1 0), (3, .l 3 0), (5, .l 1 0), (7, .l 3 0), (11, .l 3 1), (16, .l 3 1), (21, .l 3 2), (26, .l 3 2), (31, .l 3 3), (36, .l 1 4), (41, .l 1 4), (46, .l 1 5), (52, .l 1 14), (57, .l 1 6), (58, .l 1 13), (63, .l 1 6), (64, .l 1 6), (68, .l 1 6), (69, .l 1 6), (71, .l 1 6), (72, .l 1 13), (74, .l 3 2), (81, .l 1 6), (82, .l 1 7), (87, .l 1 6), (88, .l 1 7), (93, .l 1 6), (94, .l 1 6)], lo := [(1, [I4 (x0), I4 (x1), I4 (x2), I4 (x3), I4 (x4), .d 51 (.list 55 QDy) (x5), I4 (x6), I4 (x7), I4 (x8), I4 (x9), I4 (A), I4 (B), I4 (C), I4 (D), .int .u64 (E)])], h := [], n0 := 0, w := false } cX = (cond (x8 != 0) (cX .ret { sl := [(2, .v (.sc (.bool (false))))], lo := [], h := [], n0 := 0, w := true }) (cond (x9 != 0) (cX .ret { sl := [(2, .v (.sc (.bool (false))))], lo := [], h := [], n0 := 0, w := true }) (cond (A != 0) (cX .ret { sl := [(2, .v (.sc (.bool (false))))], lo := [], h := [], n0 := 0, w := true }) (cond (B != 0) (cX .ret { sl := [(2, .v (.sc (.bool (false))))], lo := [], h := [], n0 := 0, w := true }) (cond (C != 0) (cX .ret { sl := [(2, .v (.sc (.bool (false))))], lo := [], h := [], n0 := 0, w := true }) (cond (ok (Lan x0 x1 x2 x3 x4 x5 x6 x7 x8 x9 A B C D E)) (cX .ret { sl := [(2, .v (.sc (.bool (val (Lan x0 x1 x2 x3 x4 x5 x6 x7 x8 x9 A B C D E)))))], lo := [], h := [], n0 := 0, w := true }) none)))))) := by kernel_rfl
theorem lLax (k : Nat) (x0 x1 x2 x3 x4 : Int) (x5 : (List (List (PKt × Int)))) (x6 x7 x8 x9 A B C D E : Int) (r : Bool) : Lax x0 x1 x2 x3 x4 x5 x6 x7 x8 x9 A B C D E = some r → zo Try.prog (tn37 19) (TM.evF Try.prog (tn37) dOk (k + 40)) dOk (k + 40) (zh Try.prog (tn0 19) 19 52) 0 52 { sl := [(1, .l 1 0), (3, .l 3 0), (5, .l 1 0), (7, .l 3 0), (11, .l 3 1), (16, .l 3 1), (21, .l 3 2), (26, .l 3 2), (31, .l 3 3), (36, .l 1 4), (41, .l 1 4), (46, .l 1 5), (52, .l 1 14), (57, .l 1 6), (58, .l 1 13), (63, .l 1 6), (64, .l 1 6), (68, .l 1 6), (69, .l 1 6), (71, .l 1 6), (72, .l 1 13), (74, .l 3 2), (81, .l 1 6), (82, .l 1 7), (87, .l 1 6), (88, .l 1 7), (93, .l 1 6), (94, .l 1 6)], lo := [(1, [I4 (x0), I4 (x1), I4 (x2), I4 (x3), I4 (x4), .d 51 (.list 55 QDy) (x5), I4 (x6), I4 (x7), I4 (x8), I4 (x9), I4 (A), I4 (B), I4 (C), I4 (D), .int .u64 (E)])], h := [], n0 := 0, w := false } (fun e s => some (e, s)) = some (xLax x0 x1 x2 x3 x4 x5 x6 x7 x8 x9 A B C D E r) := by
 rw [bLax]
 unfold Lax
 refine ze ?_ ?_
 intro h; cases h; rfl
 refine ze ?_ ?_
 intro h; cases h; rfl
 refine ze ?_ ?_
 intro h; cases h; rfl
 refine ze ?_ ?_
 intro h; cases h; rfl
 refine ze ?_ ?_
 intro h; cases h; rfl
 refine ze ?_ ?_
 intro h; cases h; rfl
 intro h; cases h
noncomputable def sLax : TellS := fun S => dCS 0 S fun y1 y2 y3 => dSt 1 y1 fun y5 l4 => dL 1 0 y5 <| dSt 3 l4 fun y7 l6 => dL 3 0 y7 <| dSt 5 l6 fun y9 l8 => dL 1 0 y9 <| dSt 7 l8 fun y11 l10 => dL 3 0 y11 <| dSt 11 l10 fun y13 l12 => dL 3 1 y13 <| dSt 16 l12 fun y15 l14 => dL 3 1 y15 <| dSt 21 l14 fun y17 l16 => dL 3 2 y17 <| dSt 26 l16 fun y19 l18 => dL 3 2 y19 <| dSt 31 l18 fun y21 l20 => dL 3 3 y21 <| dSt 36 l20 fun y23 l22 => dL 1 4 y23 <| dSt 41 l22 fun y25 l24 => dL 1 4 y25 <| dSt 46 l24 fun y27 l26 => dL 1 5 y27 <| dSt 52 l26 fun y29 l28 => dL 1 14 y29 <| dSt 57 l28 fun y31 l30 => dL 1 6 y31 <| dSt 58 l30 fun y33 l32 => dL 1 13 y33 <| dSt 63 l32 fun y35 l34 => dL 1 6 y35 <| dSt 64 l34 fun y37 l36 => dL 1 6 y37 <| dSt 68 l36 fun y39 l38 => dL 1 6 y39 <| dSt 69 l38 fun y41 l40 => dL 1 6 y41 <| dSt 71 l40 fun y43 l42 => dL 1 6 y43 <| dSt 72 l42 fun y45 l44 => dL 1 13 y45 <| dSt 74 l44 fun y47 l46 => dL 3 2 y47 <| dSt 81 l46 fun y49 l48 => dL 1 6 y49 <| dSt 82 l48 fun y51 l50 => dL 1 7 y51 <| dSt 87 l50 fun y53 l52 => dL 1 6 y53 <| dSt 88 l52 fun y55 l54 => dL 1 7 y55 <| dSt 93 l54 fun y57 l56 => dL 1 6 y57 <| dSt 94 l56 fun y59 l58 => dL 1 6 y59 <| dE l58 <| dLo 1 y2 fun y60 l61 => dK y60 fun x0 l62 => dK l62 fun x1 l63 => dK l63 fun x2 l64 => dK l64 fun x3 l65 => dK l65 fun x4 l66 => dC l66 fun y67 l68 => dD 51 (.list 55 QDy) y67 fun x5 => dK l68 fun x6 l69 => dK l69 fun x7 l70 => dK l70 fun x8 l71 => dK l71 fun x9 l72 => dK l72 fun A l73 => dK l73 fun B l74 => dK l74 fun C l75 => dK l75 fun D l76 => dCI .u64 l76 fun E l77 => dE l77 <| dE l61 <| dE y3 <|  some [(ok (Lax x0 x1 x2 x3 x4 x5 x6 x7 x8 x9 A B C D E), .ret, { sl := [(2, .v (.sc (.bool ((val (Lax x0 x1 x2 x3 x4 x5 x6 x7 x8 x9 A B C D E))))))], lo := [], h := [], n0 := 0, w := true })]
theorem wLax : zG Try.prog dOk base o37 t37 ((19, 52), sLax) := by
 refine ⟨(zh Try.prog (tn0 19) 19 52), 0, by kernel_rfl, ?_⟩
 intro S alts e S' h10 h2
 have h1 : sLax S = some alts := h10
 clear h10
 unfold sLax at h1
 replace h1 := yN h1; obtain ⟨_, _, _, rfl, h1⟩ := h1
 replace h1 := zd h1; obtain ⟨_, _, rfl, h1⟩ := h1
 replace h1 := dLq h1; obtain ⟨rfl, h1⟩ := h1
 replace h1 := zd h1; obtain ⟨_, _, rfl, h1⟩ := h1
 replace h1 := dLq h1; obtain ⟨rfl, h1⟩ := h1
 replace h1 := zd h1; obtain ⟨_, _, rfl, h1⟩ := h1
 replace h1 := dLq h1; obtain ⟨rfl, h1⟩ := h1
 replace h1 := zd h1; obtain ⟨_, _, rfl, h1⟩ := h1
 replace h1 := dLq h1; obtain ⟨rfl, h1⟩ := h1
 replace h1 := zd h1; obtain ⟨_, _, rfl, h1⟩ := h1
 replace h1 := dLq h1; obtain ⟨rfl, h1⟩ := h1
 replace h1 := zd h1; obtain ⟨_, _, rfl, h1⟩ := h1
 replace h1 := dLq h1; obtain ⟨rfl, h1⟩ := h1
 replace h1 := zd h1; obtain ⟨_, _, rfl, h1⟩ := h1
 replace h1 := dLq h1; obtain ⟨rfl, h1⟩ := h1
 replace h1 := zd h1; obtain ⟨_, _, rfl, h1⟩ := h1
 replace h1 := dLq h1; obtain ⟨rfl, h1⟩ := h1
 replace h1 := zd h1; obtain ⟨_, _, rfl, h1⟩ := h1
 replace h1 := dLq h1; obtain ⟨rfl, h1⟩ := h1
 replace h1 := zd h1; obtain ⟨_, _, rfl, h1⟩ := h1
 replace h1 := dLq h1; obtain ⟨rfl, h1⟩ := h1
 replace h1 := zd h1; obtain ⟨_, _, rfl, h1⟩ := h1
 replace h1 := dLq h1; obtain ⟨rfl, h1⟩ := h1
 replace h1 := zd h1; obtain ⟨_, _, rfl, h1⟩ := h1
 replace h1 := dLq h1; obtain ⟨rfl, h1⟩ := h1
 replace h1 := zd h1; obtain ⟨_, _, rfl, h1⟩ := h1
 replace h1 := dLq h1; obtain ⟨rfl, h1⟩ := h1
 replace h1 := zd h1; obtain ⟨_, _, rfl, h1⟩ := h1
 replace h1 := dLq h1; obtain ⟨rfl, h1⟩ := h1
 replace h1 := zd h1; obtain ⟨_, _, rfl, h1⟩ := h1
 replace h1 := dLq h1; obtain ⟨rfl, h1⟩ := h1
 replace h1 := zd h1; obtain ⟨_, _, rfl, h1⟩ := h1
 replace h1 := dLq h1; obtain ⟨rfl, h1⟩ := h1
 replace h1 := zd h1; obtain ⟨_, _, rfl, h1⟩ := h1
 replace h1 := dLq h1; obtain ⟨rfl, h1⟩ := h1
 replace h1 := zd h1; obtain ⟨_, _, rfl, h1⟩ := h1
 replace h1 := dLq h1; obtain ⟨rfl, h1⟩ := h1
 replace h1 := zd h1; obtain ⟨_, _, rfl, h1⟩ := h1
 replace h1 := dLq h1; obtain ⟨rfl, h1⟩ := h1
 replace h1 := zd h1; obtain ⟨_, _, rfl, h1⟩ := h1
 replace h1 := dLq h1; obtain ⟨rfl, h1⟩ := h1
 replace h1 := zd h1; obtain ⟨_, _, rfl, h1⟩ := h1
 replace h1 := dLq h1; obtain ⟨rfl, h1⟩ := h1
 replace h1 := zd h1; obtain ⟨_, _, rfl, h1⟩ := h1
 replace h1 := dLq h1; obtain ⟨rfl, h1⟩ := h1
 replace h1 := zd h1; obtain ⟨_, _, rfl, h1⟩ := h1
 replace h1 := dLq h1; obtain ⟨rfl, h1⟩ := h1
 replace h1 := zd h1; obtain ⟨_, _, rfl, h1⟩ := h1
 replace h1 := dLq h1; obtain ⟨rfl, h1⟩ := h1
 replace h1 := zd h1; obtain ⟨_, _, rfl, h1⟩ := h1
 replace h1 := dLq h1; obtain ⟨rfl, h1⟩ := h1
 replace h1 := zd h1; obtain ⟨_, _, rfl, h1⟩ := h1
 replace h1 := dLq h1; obtain ⟨rfl, h1⟩ := h1
 replace h1 := zd h1; obtain ⟨_, _, rfl, h1⟩ := h1
 replace h1 := dLq h1; obtain ⟨rfl, h1⟩ := h1
 replace h1 := zd h1; obtain ⟨_, _, rfl, h1⟩ := h1
 replace h1 := dLq h1; obtain ⟨rfl, h1⟩ := h1
 replace h1 := dEq h1; obtain ⟨rfl, h1⟩ := h1
 replace h1 := zQ h1; obtain ⟨_, _, rfl, h1⟩ := h1
 replace h1 := dJ5 h1; obtain ⟨_, _, _, _, _, _, rfl, h1⟩ := h1
 replace h1 := dCq h1; obtain ⟨_, _, rfl, h1⟩ := h1
 replace h1 := dDq h1; obtain ⟨_, rfl, h1⟩ := h1
 replace h1 := dJ9 h1; obtain ⟨_, _, _, _, _, _, _, _, _, _, rfl, h1⟩ := h1
 replace h1 := dEq h1; obtain ⟨rfl, h1⟩ := h1
 replace h1 := dEq h1; obtain ⟨rfl, h1⟩ := h1
 replace h1 := dEq h1; obtain ⟨rfl, h1⟩ := h1
 cases h1
 obtain ⟨hc0, rfl, rfl⟩ := zH h2
 exact ⟨0 + 40, (zy rfl).trans (lLax 0 _ _ _ _ _ _ _ _ _ _ _ _ _ _ _ _ (zk hc0))⟩
noncomputable def o38 : OrcT := o37
noncomputable def t38 : TellT := ((19, 52), sLay) :: ((19, 52), sLax) :: t37
noncomputable abbrev tn38 : FuncId → TAn := zj base o38 t38
theorem ok38 : TnOk Try.prog tn38 (mkA base) dOk := by
 have h0 : TnOk Try.prog (tn37) (mkA base) dOk := ok37
 have h1 := zK h0 h0 (p := ((19, 52), sLax)) wLax
 have h2 := zK h0 h1 (p := ((19, 52), sLay)) wLay
 exact h2
noncomputable def Lav (x0 x1 x2 x3 x4 : Int) (x5 : (List (List (PKt × Int)))) (x6 x7 x8 x9 A B C D E F G I J : Int) : Option Bool := (cond (decide (x6 < 0)) (some (false)) (cond (decide (x6 > IntKind.wrap IntKind.i64 (IntKind.wrap IntKind.i64 (D + I) + (1 : Int)))) (some (false)) (cond (decide (x7 < 0)) (some (false)) (cond (decide (x7 > (1000000000 : Int))) (some (false)) (cond (x6 == 0) (cond (x7 != 0) (some (false)) (cond (ok (Lay x0 x1 x2 x3 x4 x5 x6 x7 x8 x9 A B C D E)) (some (val (Lay x0 x1 x2 x3 x4 x5 x6 x7 x8 x9 A B C D E))) none)) (cond (ok (Lax x0 x1 x2 x3 x4 x5 x6 x7 x8 x9 A B C D E)) (some (val (Lax x0 x1 x2 x3 x4 x5 x6 x7 x8 x9 A B C D E))) none))))))
noncomputable def xLav (x0 x1 x2 x3 x4 : Int) (x5 : (List (List (PKt × Int)))) (x6 x7 x8 x9 A B C D E F G I J : Int) : Bool → Ex × CS := fun r => (.ret, { sl := [(2, .v (.sc (.bool (r))))], lo := [], h := [], n0 := 0, w := true })
theorem bLav (k : Nat) (cX : Ex → CS → Option (Ex × CS)) (x0 x1 x2 x3 x4 : Int) (x5 : (List (List (PKt × Int)))) (x6 x7 x8 x9 A B C D E F G I J : Int) : zo Try.prog (tn38 19) (TM.evF Try.prog (tn38) dOk (k + 40)) dOk (k + 40) (zh Try.prog (tn0 19) 19 36) 0 36 { sl := [(1, .l 1 0), (3, .l 3 0), (5, .l 1 0), (7, .l 3 0), (11, .l 3 1), (16, .l 3 1), (21, .l 3 2), (26, .l 3 2), (31, .l 3 3), (36, .l 1 4), (41, .l 1 4), (46, .l 1 5), (52, .l 1 14), (57, .l 1 6), (58, .l 1 13)], lo := [(1, [I4 (x0), I4 (x1), I4 (x2), I4 (x3), I4 (x4), .d 51 (.list 55 QDy) (x5), I4 (x6), I4 (x7), I4 (x8), I4 (x9), I4 (A), I4 (B), I4 (C), I4 (D), .int .u64 (E)]), (3, [I4 (F), I4 (G), I4 (I), I4 (J)])], h := [], n0 := 0, w := false } cX = (cond (decide (x6 < 0)) (cX .ret { sl := [(2, .v (.sc (.bool (false))))], lo := [], h := [], n0 := 0, w := true }) (cond (decide (x6 > IntKind.wrap IntKind.i64 (IntKind.wrap IntKind.i64 (D + I) + (1 : Int)))) (cX .ret { sl := [(2, .v (.sc (.bool (false))))], lo := [], h := [], n0 := 0, w := true }) (cond (decide (x7 < 0)) (cX .ret { sl := [(2, .v (.sc (.bool (false))))], lo := [], h := [], n0 := 0, w := true }) (cond (decide (x7 > (1000000000 : Int))) (cX .ret { sl := [(2, .v (.sc (.bool (false))))], lo := [], h := [], n0 := 0, w := true }) (cond (x6 == 0) (cond (x7 != 0) (cX .ret { sl := [(2, .v (.sc (.bool (false))))], lo := [], h := [], n0 := 0, w := true }) (cond (ok (Lay x0 x1 x2 x3 x4 x5 x6 x7 x8 x9 A B C D E)) (cX .ret { sl := [(2, .v (.sc (.bool (val (Lay x0 x1 x2 x3 x4 x5 x6 x7 x8 x9 A B C D E)))))], lo := [], h := [], n0 := 0, w := true }) none)) (cond (ok (Lax x0 x1 x2 x3 x4 x5 x6 x7 x8 x9 A B C D E)) (cX .ret { sl := [(2, .v (.sc (.bool (val (Lax x0 x1 x2 x3 x4 x5 x6 x7 x8 x9 A B C D E)))))], lo := [], h := [], n0 := 0, w := true }) none)))))) := by kernel_rfl
theorem lLav (k : Nat) (x0 x1 x2 x3 x4 : Int) (x5 : (List (List (PKt × Int)))) (x6 x7 x8 x9 A B C D E F G I J : Int) (r : Bool) : Lav x0 x1 x2 x3 x4 x5 x6 x7 x8 x9 A B C D E F G I J = some r → zo Try.prog (tn38 19) (TM.evF Try.prog (tn38) dOk (k + 40)) dOk (k + 40) (zh Try.prog (tn0 19) 19 36) 0 36 { sl := [(1, .l 1 0), (3, .l 3 0), (5, .l 1 0), (7, .l 3 0), (11, .l 3 1), (16, .l 3 1), (21, .l 3 2), (26, .l 3 2), (31, .l 3 3), (36, .l 1 4), (41, .l 1 4), (46, .l 1 5), (52, .l 1 14), (57, .l 1 6), (58, .l 1 13)], lo := [(1, [I4 (x0), I4 (x1), I4 (x2), I4 (x3), I4 (x4), .d 51 (.list 55 QDy) (x5), I4 (x6), I4 (x7), I4 (x8), I4 (x9), I4 (A), I4 (B), I4 (C), I4 (D), .int .u64 (E)]), (3, [I4 (F), I4 (G), I4 (I), I4 (J)])], h := [], n0 := 0, w := false } (fun e s => some (e, s)) = some (xLav x0 x1 x2 x3 x4 x5 x6 x7 x8 x9 A B C D E F G I J r) := by
 rw [bLav]
 unfold Lav
 refine ze ?_ ?_
 intro h; cases h; rfl
 refine ze ?_ ?_
 intro h; cases h; rfl
 refine ze ?_ ?_
 intro h; cases h; rfl
 refine ze ?_ ?_
 intro h; cases h; rfl
 refine ze ?_ ?_
 refine ze ?_ ?_
 intro h; cases h; rfl
 refine ze ?_ ?_
 intro h; cases h; rfl
 intro h; cases h
 refine ze ?_ ?_
 intro h; cases h; rfl
 intro h; cases h
noncomputable def sLav : TellS := fun S => dCS 0 S fun y1 y2 y3 => dSt 1 y1 fun y5 l4 => dL 1 0 y5 <| dSt 3 l4 fun y7 l6 => dL 3 0 y7 <| dSt 5 l6 fun y9 l8 => dL 1 0 y9 <| dSt 7 l8 fun y11 l10 => dL 3 0 y11 <| dSt 11 l10 fun y13 l12 => dL 3 1 y13 <| dSt 16 l12 fun y15 l14 => dL 3 1 y15 <| dSt 21 l14 fun y17 l16 => dL 3 2 y17 <| dSt 26 l16 fun y19 l18 => dL 3 2 y19 <| dSt 31 l18 fun y21 l20 => dL 3 3 y21 <| dSt 36 l20 fun y23 l22 => dL 1 4 y23 <| dSt 41 l22 fun y25 l24 => dL 1 4 y25 <| dSt 46 l24 fun y27 l26 => dL 1 5 y27 <| dSt 52 l26 fun y29 l28 => dL 1 14 y29 <| dSt 57 l28 fun y31 l30 => dL 1 6 y31 <| dSt 58 l30 fun y33 l32 => dL 1 13 y33 <| dE l32 <| dLo 1 y2 fun y34 l35 => dK y34 fun x0 l36 => dK l36 fun x1 l37 => dK l37 fun x2 l38 => dK l38 fun x3 l39 => dK l39 fun x4 l40 => dC l40 fun y41 l42 => dD 51 (.list 55 QDy) y41 fun x5 => dK l42 fun x6 l43 => dK l43 fun x7 l44 => dK l44 fun x8 l45 => dK l45 fun x9 l46 => dK l46 fun A l47 => dK l47 fun B l48 => dK l48 fun C l49 => dK l49 fun D l50 => dCI .u64 l50 fun E l51 => dE l51 <| dLo 3 l35 fun y52 l53 => dK y52 fun F l54 => dK l54 fun G l55 => dK l55 fun I l56 => dK l56 fun J l57 => dE l57 <| dE l53 <| dE y3 <|  some [(ok (Lav x0 x1 x2 x3 x4 x5 x6 x7 x8 x9 A B C D E F G I J), .ret, { sl := [(2, .v (.sc (.bool ((val (Lav x0 x1 x2 x3 x4 x5 x6 x7 x8 x9 A B C D E F G I J))))))], lo := [], h := [], n0 := 0, w := true })]
theorem wLav : zG Try.prog dOk base o38 t38 ((19, 36), sLav) := by
 refine ⟨(zh Try.prog (tn0 19) 19 36), 0, by kernel_rfl, ?_⟩
 intro S alts e S' h10 h2
 have h1 : sLav S = some alts := h10
 clear h10
 unfold sLav at h1
 replace h1 := yN h1; obtain ⟨_, _, _, rfl, h1⟩ := h1
 replace h1 := zd h1; obtain ⟨_, _, rfl, h1⟩ := h1
 replace h1 := dLq h1; obtain ⟨rfl, h1⟩ := h1
 replace h1 := zd h1; obtain ⟨_, _, rfl, h1⟩ := h1
 replace h1 := dLq h1; obtain ⟨rfl, h1⟩ := h1
 replace h1 := zd h1; obtain ⟨_, _, rfl, h1⟩ := h1
 replace h1 := dLq h1; obtain ⟨rfl, h1⟩ := h1
 replace h1 := zd h1; obtain ⟨_, _, rfl, h1⟩ := h1
 replace h1 := dLq h1; obtain ⟨rfl, h1⟩ := h1
 replace h1 := zd h1; obtain ⟨_, _, rfl, h1⟩ := h1
 replace h1 := dLq h1; obtain ⟨rfl, h1⟩ := h1
 replace h1 := zd h1; obtain ⟨_, _, rfl, h1⟩ := h1
 replace h1 := dLq h1; obtain ⟨rfl, h1⟩ := h1
 replace h1 := zd h1; obtain ⟨_, _, rfl, h1⟩ := h1
 replace h1 := dLq h1; obtain ⟨rfl, h1⟩ := h1
 replace h1 := zd h1; obtain ⟨_, _, rfl, h1⟩ := h1
 replace h1 := dLq h1; obtain ⟨rfl, h1⟩ := h1
 replace h1 := zd h1; obtain ⟨_, _, rfl, h1⟩ := h1
 replace h1 := dLq h1; obtain ⟨rfl, h1⟩ := h1
 replace h1 := zd h1; obtain ⟨_, _, rfl, h1⟩ := h1
 replace h1 := dLq h1; obtain ⟨rfl, h1⟩ := h1
 replace h1 := zd h1; obtain ⟨_, _, rfl, h1⟩ := h1
 replace h1 := dLq h1; obtain ⟨rfl, h1⟩ := h1
 replace h1 := zd h1; obtain ⟨_, _, rfl, h1⟩ := h1
 replace h1 := dLq h1; obtain ⟨rfl, h1⟩ := h1
 replace h1 := zd h1; obtain ⟨_, _, rfl, h1⟩ := h1
 replace h1 := dLq h1; obtain ⟨rfl, h1⟩ := h1
 replace h1 := zd h1; obtain ⟨_, _, rfl, h1⟩ := h1
 replace h1 := dLq h1; obtain ⟨rfl, h1⟩ := h1
 replace h1 := zd h1; obtain ⟨_, _, rfl, h1⟩ := h1
 replace h1 := dLq h1; obtain ⟨rfl, h1⟩ := h1
 replace h1 := dEq h1; obtain ⟨rfl, h1⟩ := h1
 replace h1 := zQ h1; obtain ⟨_, _, rfl, h1⟩ := h1
 replace h1 := dJ5 h1; obtain ⟨_, _, _, _, _, _, rfl, h1⟩ := h1
 replace h1 := dCq h1; obtain ⟨_, _, rfl, h1⟩ := h1
 replace h1 := dDq h1; obtain ⟨_, rfl, h1⟩ := h1
 replace h1 := dJ9 h1; obtain ⟨_, _, _, _, _, _, _, _, _, _, rfl, h1⟩ := h1
 replace h1 := dEq h1; obtain ⟨rfl, h1⟩ := h1
 replace h1 := zQ h1; obtain ⟨_, _, rfl, h1⟩ := h1
 replace h1 := dJ4 h1; obtain ⟨_, _, _, _, _, rfl, h1⟩ := h1
 replace h1 := dEq h1; obtain ⟨rfl, h1⟩ := h1
 replace h1 := dEq h1; obtain ⟨rfl, h1⟩ := h1
 replace h1 := dEq h1; obtain ⟨rfl, h1⟩ := h1
 cases h1
 obtain ⟨hc0, rfl, rfl⟩ := zH h2
 exact ⟨0 + 40, (zy rfl).trans (lLav 0 _ _ _ _ _ _ _ _ _ _ _ _ _ _ _ _ _ _ _ _ (zk hc0))⟩
noncomputable def o39 : OrcT := o38
noncomputable def t39 : TellT := ((19, 36), sLav) :: t38
noncomputable abbrev tn39 : FuncId → TAn := zj base o39 t39
theorem ok39 : TnOk Try.prog tn39 (mkA base) dOk := by
 have h0 : TnOk Try.prog (tn38) (mkA base) dOk := ok38
 have h1 := zK h0 h0 (p := ((19, 36), sLav)) wLav
 exact h1
noncomputable def v19 (x0 x1 x2 x3 x4 : Int) (x5 : (List (List (PKt × Int)))) (x6 x7 x8 x9 A B C D E : Int) : Option Bool := (cond (x0 != (3 : Int)) (some (false)) (cond (decide (x1 < 0)) (some (false)) (cond (decide (x1 > (1000000 : Int))) (some (false)) (cond (decide (x2 < (1 : Int))) (some (false)) (cond (decide (x2 > (1000000 : Int))) (some (false)) (cond (x3 != 0) (some (false)) (cond (decide (x4 < (1 : Int))) (some (false)) (cond (decide (x4 > (500 : Int))) (some (false)) (cond ((x5.length : Int) != (1 : Int)) (some (false)) (cond (E != 0) (some (false)) (cond (ok (v26 D)) (cond (!val (v26 D)) (some (false)) (cond (ok (Lav x0 x1 x2 x3 x4 x5 x6 x7 x8 x9 A B C D E x0 x1 x2 x3)) (some (val (Lav x0 x1 x2 x3 x4 x5 x6 x7 x8 x9 A B C D E x0 x1 x2 x3))) none)) none)))))))))))
theorem ev19 (x0 x1 x2 x3 x4 : Int) (x5 : (List (List (PKt × Int)))) (x6 x7 x8 x9 A B C D E : Int) : zJ Try.prog (tn39 19) (TM.evF Try.prog (tn39) dOk 40) dOk 40 19 [.agg [I4 (x0), I4 (x1), I4 (x2), I4 (x3), I4 (x4), .d 51 (.list 55 QDy) (x5), I4 (x6), I4 (x7), I4 (x8), I4 (x9), I4 (A), I4 (B), I4 (C), I4 (D), .int .u64 (E)]] [] = (v19 x0 x1 x2 x3 x4 x5 x6 x7 x8 x9 A B C D E).bind fun r => some ([.sc (.bool (r))], []) := by
 refine Eq.trans (b := (cond (x0 != (3 : Int)) (some ([.sc (.bool (false))], [])) (cond (decide (x1 < 0)) (some ([.sc (.bool (false))], [])) (cond (decide (x1 > (1000000 : Int))) (some ([.sc (.bool (false))], [])) (cond (decide (x2 < (1 : Int))) (some ([.sc (.bool (false))], [])) (cond (decide (x2 > (1000000 : Int))) (some ([.sc (.bool (false))], [])) (cond (x3 != 0) (some ([.sc (.bool (false))], [])) (cond (decide (x4 < (1 : Int))) (some ([.sc (.bool (false))], [])) (cond (decide (x4 > (500 : Int))) (some ([.sc (.bool (false))], [])) (cond ((x5.length : Int) != (1 : Int)) (some ([.sc (.bool (false))], [])) (cond (E != 0) (some ([.sc (.bool (false))], [])) (cond (ok (v26 D)) (cond (!val (v26 D)) (some ([.sc (.bool (false))], [])) (cond (ok (Lav x0 x1 x2 x3 x4 x5 x6 x7 x8 x9 A B C D E x0 x1 x2 x3)) (some ([.sc (.bool (val (Lav x0 x1 x2 x3 x4 x5 x6 x7 x8 x9 A B C D E x0 x1 x2 x3)))], [])) none)) none)))))))))))) (by kernel_rfl) ?_
 unfold v19
 refine zc ?_ ?_
 rfl
 refine zc ?_ ?_
 rfl
 refine zc ?_ ?_
 rfl
 refine zc ?_ ?_
 rfl
 refine zc ?_ ?_
 rfl
 refine zc ?_ ?_
 rfl
 refine zc ?_ ?_
 rfl
 refine zc ?_ ?_
 rfl
 refine zc ?_ ?_
 rfl
 refine zc ?_ ?_
 rfl
 refine zc ?_ ?_
 refine zc ?_ ?_
 rfl
 refine zc ?_ ?_
 rfl
 rfl
 rfl
noncomputable def sv19 : OrcS := fun al H => dC al fun y1 l2 => dA y1 fun y3 => dK y3 fun x0 l4 => dK l4 fun x1 l5 => dK l5 fun x2 l6 => dK l6 fun x3 l7 => dK l7 fun x4 l8 => dC l8 fun y9 l10 => dD 51 (.list 55 QDy) y9 fun x5 => dK l10 fun x6 l11 => dK l11 fun x7 l12 => dK l12 fun x8 l13 => dK l13 fun x9 l14 => dK l14 fun A l15 => dK l15 fun B l16 => dK l16 fun C l17 => dK l17 fun D l18 => dCI .u64 l18 fun E l19 => dE l19 <| dE l2 <| dE H <|  some [(ok (v19 x0 x1 x2 x3 x4 x5 x6 x7 x8 x9 A B C D E), [.sc (.bool ((val (v19 x0 x1 x2 x3 x4 x5 x6 x7 x8 x9 A B C D E))))], [])]
theorem wv19 : zI Try.prog dOk base o39 t39 (19, sv19) := by
 intro al H q hq0 rs H2 h2
 have hq : sv19 al H = some q := hq0
 clear hq0
 unfold sv19 at hq
 obtain ⟨_, _, rfl, g1⟩ := dCq hq
 obtain ⟨_, rfl, g2⟩ := dAq g1
 obtain ⟨_, _, _, _, _, _, rfl, g3⟩ := dJ5 g2
 obtain ⟨_, _, rfl, g4⟩ := dCq g3
 obtain ⟨_, rfl, g5⟩ := dDq g4
 obtain ⟨_, _, _, _, _, _, _, _, _, _, rfl, g6⟩ := dJ9 g5
 obtain ⟨rfl, g7⟩ := dEq g6
 obtain ⟨rfl, g8⟩ := dEq g7
 obtain ⟨rfl, g9⟩ := dEq g8
 cases g9
 obtain ⟨hc0, rfl, rfl⟩ := zq h2
 exact ⟨41, (zW (by kernel_rfl)).trans ((ev19 _ _ _ _ _ _ _ _ _ _ _ _ _ _ _).trans (zE (zk hc0)))⟩
noncomputable def o40 : OrcT := (19, sv19) :: o39
noncomputable def t40 : TellT := t39
noncomputable abbrev tn40 : FuncId → TAn := zj base o40 t40
theorem ok40 : TnOk Try.prog tn40 (mkA base) dOk := by
 have h0 : TnOk Try.prog (tn39) (mkA base) dOk := ok39
 have h1 := zM h0 h0 (p := (19, sv19)) wv19
 exact h1
noncomputable def v29 (x0 x1 x2 : Int) : Option (Int × Int × (List (List (PKt × Int))) × Int × Int × Int × Int × Int × Int × Int × Int × Int) := (some ((3 : Int), 0, [[]], 0, 0, 0, 0, 0, 0, 0, 0, 0))
theorem ev29 (x0 x1 x2 : Int) : zJ Try.prog (tn40 29) (TM.evF Try.prog (tn40) dOk 40) dOk 40 29 [.sc (I4 x0), .sc (I4 x1), .sc (I4 x2)] [] = (v29 x0 x1 x2).bind fun r => some ([.agg [I4 (r.1), I4 (x0), I4 (x1), I4 (r.2.1), I4 (x2), .d 51 (.list 55 QDy) (r.2.2.1 : List (List (PKt × Int))), I4 (r.2.2.2.1), I4 (r.2.2.2.2.1), I4 (r.2.2.2.2.2.1), I4 (r.2.2.2.2.2.2.1), I4 (r.2.2.2.2.2.2.2.1), I4 (r.2.2.2.2.2.2.2.2.1), I4 (r.2.2.2.2.2.2.2.2.2.1), I4 (r.2.2.2.2.2.2.2.2.2.2.1), .int .u64 (r.2.2.2.2.2.2.2.2.2.2.2)]], []) := by
 refine Eq.trans (b := (some ([.agg [I4 ((3 : Int)), I4 (x0), I4 (x1), I4 (0), I4 (x2), .d 51 (.list 55 QDy) ([[]] : List (List (PKt × Int))), I4 (0), I4 (0), I4 (0), I4 (0), I4 (0), I4 (0), I4 (0), I4 (0), .int .u64 (0)]], []))) (by kernel_rfl) ?_
 unfold v29
 rfl
noncomputable def sv29 : OrcS := fun al H => dC al fun y1 l2 => dS y1 fun y3 => yX .i64 y3 fun x0 => dC l2 fun y4 l5 => dS y4 fun y6 => yX .i64 y6 fun x1 => dC l5 fun y7 l8 => dS y7 fun y9 => yX .i64 y9 fun x2 => dE l8 <| dE H <|  some [(ok (v29 x0 x1 x2), [.agg [I4 ((val (v29 x0 x1 x2)).1), I4 (x0), I4 (x1), I4 ((val (v29 x0 x1 x2)).2.1), I4 (x2), .d 51 (.list 55 QDy) ((val (v29 x0 x1 x2)).2.2.1 : List (List (PKt × Int))), I4 ((val (v29 x0 x1 x2)).2.2.2.1), I4 ((val (v29 x0 x1 x2)).2.2.2.2.1), I4 ((val (v29 x0 x1 x2)).2.2.2.2.2.1), I4 ((val (v29 x0 x1 x2)).2.2.2.2.2.2.1), I4 ((val (v29 x0 x1 x2)).2.2.2.2.2.2.2.1), I4 ((val (v29 x0 x1 x2)).2.2.2.2.2.2.2.2.1), I4 ((val (v29 x0 x1 x2)).2.2.2.2.2.2.2.2.2.1), I4 ((val (v29 x0 x1 x2)).2.2.2.2.2.2.2.2.2.2.1), .int .u64 ((val (v29 x0 x1 x2)).2.2.2.2.2.2.2.2.2.2.2)]], [])]
theorem wv29 : zI Try.prog dOk base o40 t40 (29, sv29) := by
 intro al H q hq0 rs H2 h2
 have hq : sv29 al H = some q := hq0
 clear hq0
 unfold sv29 at hq
 obtain ⟨_, _, rfl, g1⟩ := dCq hq
 obtain ⟨_, rfl, g2⟩ := dSq g1
 obtain ⟨_, rfl, g3⟩ := yS g2
 obtain ⟨_, _, rfl, g4⟩ := dCq g3
 obtain ⟨_, rfl, g5⟩ := dSq g4
 obtain ⟨_, rfl, g6⟩ := yS g5
 obtain ⟨_, _, rfl, g7⟩ := dCq g6
 obtain ⟨_, rfl, g8⟩ := dSq g7
 obtain ⟨_, rfl, g9⟩ := yS g8
 obtain ⟨rfl, g10⟩ := dEq g9
 obtain ⟨rfl, g11⟩ := dEq g10
 cases g11
 obtain ⟨hc0, rfl, rfl⟩ := zq h2
 exact ⟨41, (zW (by kernel_rfl)).trans ((ev29 _ _ _).trans (zE (zk hc0)))⟩
noncomputable def o41 : OrcT := (29, sv29) :: o40
noncomputable def t41 : TellT := t40
noncomputable abbrev tn41 : FuncId → TAn := zj base o41 t41
theorem ok41 : TnOk Try.prog tn41 (mkA base) dOk := by
 have h0 : TnOk Try.prog (tn40) (mkA base) dOk := ok40
 have h1 := zM h0 h0 (p := (29, sv29)) wv29
 exact h1
noncomputable def v10 : Option Bool := (some (true))
theorem ev10 : zJ Try.prog (tn41 10) (TM.evF Try.prog (tn41) dOk 40) dOk 40 10 [] [] = (v10).bind fun r => some ([.sc (.bool (r))], []) := by
 refine Eq.trans (b := (some ([.sc (.bool (true))], []))) (by kernel_rfl) ?_
 unfold v10
 rfl
noncomputable def sv10 : OrcS := fun al H => dE al <| dE H <|  some [(ok (v10), [.sc (.bool ((val (v10))))], [])]
theorem wv10 : zI Try.prog dOk base o41 t41 (10, sv10) := by
 intro al H q hq0 rs H2 h2
 have hq : sv10 al H = some q := hq0
 clear hq0
 unfold sv10 at hq
 obtain ⟨rfl, g1⟩ := dEq hq
 obtain ⟨rfl, g2⟩ := dEq g1
 cases g2
 obtain ⟨hc0, rfl, rfl⟩ := zq h2
 exact ⟨41, (zW (by kernel_rfl)).trans ((ev10 ).trans (zE (zk hc0)))⟩
noncomputable def o42 : OrcT := (10, sv10) :: o41
noncomputable def t42 : TellT := t41
noncomputable abbrev tn42 : FuncId → TAn := zj base o42 t42
theorem ok42 : TnOk Try.prog tn42 (mkA base) dOk := by
 have h0 : TnOk Try.prog (tn41) (mkA base) dOk := ok41
 have h1 := zM h0 h0 (p := (10, sv10)) wv10
 exact h1
noncomputable def v34 (x0 x1 x2 x3 x4 : Int) (x5 : (List (List (PKt × Int)))) (x6 x7 x8 x9 A B C D E F : Int) : Option Int := (cond (ok (v19 x0 x1 x2 x3 x4 x5 x6 x7 x8 x9 A B C D E)) (cond (!val (v19 x0 x1 x2 x3 x4 x5 x6 x7 x8 x9 A B C D E)) (some ((1 : Int))) (cond (ok (v26 F)) (cond (!val (v26 F)) (some ((1 : Int))) (cond (decide (F < D)) (some ((18 : Int))) (some (0)))) none)) none)
theorem ev34 (x0 x1 x2 x3 x4 : Int) (x5 : (List (List (PKt × Int)))) (x6 x7 x8 x9 A B C D E F : Int) : zJ Try.prog (tn42 34) (TM.evF Try.prog (tn42) dOk 40) dOk 40 34 [.agg [I4 (x0), I4 (x1), I4 (x2), I4 (x3), I4 (x4), .d 51 (.list 55 QDy) (x5), I4 (x6), I4 (x7), I4 (x8), I4 (x9), I4 (A), I4 (B), I4 (C), I4 (D), .int .u64 (E)], .sc (I4 F)] [] = (v34 x0 x1 x2 x3 x4 x5 x6 x7 x8 x9 A B C D E F).bind fun r => some ([.sc (I4 (r))], []) := by
 refine Eq.trans (b := (cond (ok (v19 x0 x1 x2 x3 x4 x5 x6 x7 x8 x9 A B C D E)) (cond (!val (v19 x0 x1 x2 x3 x4 x5 x6 x7 x8 x9 A B C D E)) (some ([.sc (I4 ((1 : Int)))], [])) (cond (ok (v26 F)) (cond (!val (v26 F)) (some ([.sc (I4 ((1 : Int)))], [])) (cond (decide (F < D)) (some ([.sc (I4 ((18 : Int)))], [])) (some ([.sc (I4 (0))], [])))) none)) none)) (by kernel_rfl) ?_
 unfold v34
 refine zc ?_ ?_
 refine zc ?_ ?_
 rfl
 refine zc ?_ ?_
 refine zc ?_ ?_
 rfl
 refine zc ?_ ?_
 rfl
 rfl
 rfl
 rfl
noncomputable def sv34 : OrcS := fun al H => dC al fun y1 l2 => dA y1 fun y3 => dK y3 fun x0 l4 => dK l4 fun x1 l5 => dK l5 fun x2 l6 => dK l6 fun x3 l7 => dK l7 fun x4 l8 => dC l8 fun y9 l10 => dD 51 (.list 55 QDy) y9 fun x5 => dK l10 fun x6 l11 => dK l11 fun x7 l12 => dK l12 fun x8 l13 => dK l13 fun x9 l14 => dK l14 fun A l15 => dK l15 fun B l16 => dK l16 fun C l17 => dK l17 fun D l18 => dCI .u64 l18 fun E l19 => dE l19 <| dC l2 fun y20 l21 => dS y20 fun y22 => yX .i64 y22 fun F => dE l21 <| dE H <|  some [(ok (v34 x0 x1 x2 x3 x4 x5 x6 x7 x8 x9 A B C D E F), [.sc (I4 ((val (v34 x0 x1 x2 x3 x4 x5 x6 x7 x8 x9 A B C D E F))))], [])]
theorem wv34 : zI Try.prog dOk base o42 t42 (34, sv34) := by
 intro al H q hq0 rs H2 h2
 have hq : sv34 al H = some q := hq0
 clear hq0
 unfold sv34 at hq
 obtain ⟨_, _, rfl, g1⟩ := dCq hq
 obtain ⟨_, rfl, g2⟩ := dAq g1
 obtain ⟨_, _, _, _, _, _, rfl, g3⟩ := dJ5 g2
 obtain ⟨_, _, rfl, g4⟩ := dCq g3
 obtain ⟨_, rfl, g5⟩ := dDq g4
 obtain ⟨_, _, _, _, _, _, _, _, _, _, rfl, g6⟩ := dJ9 g5
 obtain ⟨rfl, g7⟩ := dEq g6
 obtain ⟨_, _, rfl, g8⟩ := dCq g7
 obtain ⟨_, rfl, g9⟩ := dSq g8
 obtain ⟨_, rfl, g10⟩ := yS g9
 obtain ⟨rfl, g11⟩ := dEq g10
 obtain ⟨rfl, g12⟩ := dEq g11
 cases g12
 obtain ⟨hc0, rfl, rfl⟩ := zq h2
 exact ⟨41, (zW (by kernel_rfl)).trans ((ev34 _ _ _ _ _ _ _ _ _ _ _ _ _ _ _ _).trans (zE (zk hc0)))⟩
noncomputable def o43 : OrcT := (34, sv34) :: o42
noncomputable def t43 : TellT := t42
noncomputable abbrev tn43 : FuncId → TAn := zj base o43 t43
theorem ok43 : TnOk Try.prog tn43 (mkA base) dOk := by
 have h0 : TnOk Try.prog (tn42) (mkA base) dOk := ok42
 have h1 := zM h0 h0 (p := (34, sv34)) wv34
 exact h1
noncomputable def v35 (x0 x1 x2 x3 x4 : Int) (x5 : (List (List (PKt × Int)))) (x6 x7 x8 x9 A B C D E : Int) (F : (List (List (PKt × Int)))) (G : Int) : Option Unit := (some ())
theorem ev35 (x0 x1 x2 x3 x4 : Int) (x5 : (List (List (PKt × Int)))) (x6 x7 x8 x9 A B C D E : Int) (F : (List (List (PKt × Int)))) (G : Int) : zJ Try.prog (tn43 35) (TM.evF Try.prog (tn43) dOk 40) dOk 40 35 [.agg [I4 (x0), I4 (x1), I4 (x2), I4 (x3), I4 (x4), .d 51 (.list 55 QDy) (x5), I4 (x6), I4 (x7), I4 (x8), I4 (x9), I4 (A), I4 (B), I4 (C), I4 (D), .int .u64 (E)], .sc (.d 51 (.list 55 QDy) F), .sc (I4 G)] [] = (v35 x0 x1 x2 x3 x4 x5 x6 x7 x8 x9 A B C D E F G).bind fun r => some ([.agg [I4 (x0), I4 (x1), I4 (x2), I4 (x3), I4 (x4), .d 51 (.list 55 QDy) (F), I4 (x6), I4 (x7), I4 (x8), I4 (x9), I4 (A), I4 (B), I4 (C), I4 (G), .int .u64 (E)]], []) := by
 refine Eq.trans (b := (some ([.agg [I4 (x0), I4 (x1), I4 (x2), I4 (x3), I4 (x4), .d 51 (.list 55 QDy) (F), I4 (x6), I4 (x7), I4 (x8), I4 (x9), I4 (A), I4 (B), I4 (C), I4 (G), .int .u64 (E)]], []))) (by kernel_rfl) ?_
 unfold v35
 rfl
noncomputable def sv35 : OrcS := fun al H => dC al fun y1 l2 => dA y1 fun y3 => dK y3 fun x0 l4 => dK l4 fun x1 l5 => dK l5 fun x2 l6 => dK l6 fun x3 l7 => dK l7 fun x4 l8 => dC l8 fun y9 l10 => dD 51 (.list 55 QDy) y9 fun x5 => dK l10 fun x6 l11 => dK l11 fun x7 l12 => dK l12 fun x8 l13 => dK l13 fun x9 l14 => dK l14 fun A l15 => dK l15 fun B l16 => dK l16 fun C l17 => dK l17 fun D l18 => dCI .u64 l18 fun E l19 => dE l19 <| dC l2 fun y20 l21 => dS y20 fun y22 => dD 51 (.list 55 QDy) y22 fun F => dC l21 fun y23 l24 => dS y23 fun y25 => yX .i64 y25 fun G => dE l24 <| dE H <|  some [(ok (v35 x0 x1 x2 x3 x4 x5 x6 x7 x8 x9 A B C D E F G), [.agg [I4 (x0), I4 (x1), I4 (x2), I4 (x3), I4 (x4), .d 51 (.list 55 QDy) (F), I4 (x6), I4 (x7), I4 (x8), I4 (x9), I4 (A), I4 (B), I4 (C), I4 (G), .int .u64 (E)]], [])]
theorem wv35 : zI Try.prog dOk base o43 t43 (35, sv35) := by
 intro al H q hq0 rs H2 h2
 have hq : sv35 al H = some q := hq0
 clear hq0
 unfold sv35 at hq
 replace hq := dCq hq; obtain ⟨_, _, rfl, hq⟩ := hq
 replace hq := dAq hq; obtain ⟨_, rfl, hq⟩ := hq
 replace hq := dJ5 hq; obtain ⟨_, _, _, _, _, _, rfl, hq⟩ := hq
 replace hq := dCq hq; obtain ⟨_, _, rfl, hq⟩ := hq
 replace hq := dDq hq; obtain ⟨_, rfl, hq⟩ := hq
 replace hq := dJ9 hq; obtain ⟨_, _, _, _, _, _, _, _, _, _, rfl, hq⟩ := hq
 replace hq := dEq hq; obtain ⟨rfl, hq⟩ := hq
 replace hq := dCq hq; obtain ⟨_, _, rfl, hq⟩ := hq
 replace hq := dSq hq; obtain ⟨_, rfl, hq⟩ := hq
 replace hq := dDq hq; obtain ⟨_, rfl, hq⟩ := hq
 replace hq := dCq hq; obtain ⟨_, _, rfl, hq⟩ := hq
 replace hq := dSq hq; obtain ⟨_, rfl, hq⟩ := hq
 replace hq := yS hq; obtain ⟨_, rfl, hq⟩ := hq
 replace hq := dEq hq; obtain ⟨rfl, hq⟩ := hq
 replace hq := dEq hq; obtain ⟨rfl, hq⟩ := hq
 cases hq
 obtain ⟨hc0, rfl, rfl⟩ := zq h2
 exact ⟨41, (zW (by kernel_rfl)).trans ((ev35 _ _ _ _ _ _ _ _ _ _ _ _ _ _ _ _ _).trans (zE (zk hc0)))⟩
noncomputable def o44 : OrcT := (35, sv35) :: o43
noncomputable def t44 : TellT := t43
noncomputable abbrev tn44 : FuncId → TAn := zj base o44 t44
theorem ok44 : TnOk Try.prog tn44 (mkA base) dOk := by
 have h0 : TnOk Try.prog (tn43) (mkA base) dOk := ok43
 have h1 := zM h0 h0 (p := (35, sv35)) wv35
 exact h1
noncomputable def v13 (x0 x1 x2 x3 x4 : Int) (x5 : (List (List (PKt × Int)))) (x6 x7 x8 x9 A B C D E F G I J K L : Int) (M : Bool) (N : Bool) (O : Int) : Option (Int × Int × Int × Int × Int × (List (List (PKt × Int))) × Int × Int × Int × Int × Int × Int × Int × Int × Int × (List PKt) × Int) := (cond (ok (v27 F G I J K L M N)) (cond (!val (v27 F G I J K L M N)) (some (0, 0, 0, 0, 0, [], 0, 0, 0, 0, 0, 0, 0, 0, 0, [], (1 : Int))) (cond (ok (v34 x0 x1 x2 x3 x4 x5 x6 x7 x8 x9 A B C D E O)) (cond (val (v34 x0 x1 x2 x3 x4 x5 x6 x7 x8 x9 A B C D E O) != 0) (some (0, 0, 0, 0, 0, [], 0, 0, 0, 0, 0, 0, 0, 0, 0, [], val (v34 x0 x1 x2 x3 x4 x5 x6 x7 x8 x9 A B C D E O))) (cond (decide (0 < (x5.length : Int))) (cond (decide (List.length (List.getD x5 (Int.toNat 0) []) ≤ nat_lit 2147483648)) (cond ((↑(List.length (List.getD x5 (Int.toNat 0) [])) : Int) == x4) (some (x0, x1, x2, x3, x4, [List.getD x5 (Int.toNat 0) []], x6, x7, x8, x9, A, B, C, O, E, [(F, G, I, J, K, L, M, N)], 0)) (cond (decide (List.length (List.getD x5 (Int.toNat 0) []) + List.length [((F, G, I, J, K, L, M, N), O)] ≤ nat_lit 2147483648)) (some (x0, x1, x2, x3, x4, [List.getD x5 (Int.toNat 0) [] ++ [((F, G, I, J, K, L, M, N), O)]], x6, x7, x8, x9, A, B, C, O, E, [], 0)) none)) none) none)) none)) none)
theorem ev13 (x0 x1 x2 x3 x4 : Int) (x5 : (List (List (PKt × Int)))) (x6 x7 x8 x9 A B C D E F G I J K L : Int) (M : Bool) (N : Bool) (O : Int) : zJ Try.prog (tn44 13) (TM.evF Try.prog (tn44) dOk 40) dOk 40 13 [.agg [I4 (x0), I4 (x1), I4 (x2), I4 (x3), I4 (x4), .d 51 (.list 55 QDy) (x5), I4 (x6), I4 (x7), I4 (x8), I4 (x9), I4 (A), I4 (B), I4 (C), I4 (D), .int .u64 (E)], .agg [I4 (F), I4 (G), I4 (I), I4 (J), I4 (K), I4 (L), .bool (M), .bool (N)], .sc (I4 O)] [] = (v13 x0 x1 x2 x3 x4 x5 x6 x7 x8 x9 A B C D E F G I J K L M N O).bind fun r => some ([.agg [I4 (r.1), I4 (r.2.1), I4 (r.2.2.1), I4 (r.2.2.2.1), I4 (r.2.2.2.2.1), .d 51 (.list 55 QDy) (r.2.2.2.2.2.1 : List (List (PKt × Int))), I4 (r.2.2.2.2.2.2.1), I4 (r.2.2.2.2.2.2.2.1), I4 (r.2.2.2.2.2.2.2.2.1), I4 (r.2.2.2.2.2.2.2.2.2.1), I4 (r.2.2.2.2.2.2.2.2.2.2.1), I4 (r.2.2.2.2.2.2.2.2.2.2.2.1), I4 (r.2.2.2.2.2.2.2.2.2.2.2.2.1), I4 (r.2.2.2.2.2.2.2.2.2.2.2.2.2.1), .int .u64 (r.2.2.2.2.2.2.2.2.2.2.2.2.2.2.1)], .sc (.d 30 PKy (r.2.2.2.2.2.2.2.2.2.2.2.2.2.2.2.1 : List PKt)), .sc (I4 (r.2.2.2.2.2.2.2.2.2.2.2.2.2.2.2.2))], []) := by
 refine Eq.trans (b := (cond (ok (v27 F G I J K L M N)) (cond (!val (v27 F G I J K L M N)) (some ([.agg [I4 (0), I4 (0), I4 (0), I4 (0), I4 (0), .d 51 (.list 55 QDy) ([] : List (List (PKt × Int))), I4 (0), I4 (0), I4 (0), I4 (0), I4 (0), I4 (0), I4 (0), I4 (0), .int .u64 (0)], .sc (.d 30 PKy ([] : List PKt)), .sc (I4 ((1 : Int)))], [])) (cond (ok (v34 x0 x1 x2 x3 x4 x5 x6 x7 x8 x9 A B C D E O)) (cond (val (v34 x0 x1 x2 x3 x4 x5 x6 x7 x8 x9 A B C D E O) != 0) (some ([.agg [I4 (0), I4 (0), I4 (0), I4 (0), I4 (0), .d 51 (.list 55 QDy) ([] : List (List (PKt × Int))), I4 (0), I4 (0), I4 (0), I4 (0), I4 (0), I4 (0), I4 (0), I4 (0), .int .u64 (0)], .sc (.d 30 PKy ([] : List PKt)), .sc (I4 (val (v34 x0 x1 x2 x3 x4 x5 x6 x7 x8 x9 A B C D E O)))], [])) (cond (decide (0 < (x5.length : Int))) (cond (decide (List.length (List.getD x5 (Int.toNat 0) []) ≤ nat_lit 2147483648)) (cond ((↑(List.length (List.getD x5 (Int.toNat 0) [])) : Int) == x4) (some ([.agg [I4 (x0), I4 (x1), I4 (x2), I4 (x3), I4 (x4), .d 51 (.list 55 QDy) ([List.getD x5 (Int.toNat 0) []] : List (List (PKt × Int))), I4 (x6), I4 (x7), I4 (x8), I4 (x9), I4 (A), I4 (B), I4 (C), I4 (O), .int .u64 (E)], .sc (.d 30 PKy ([(F, G, I, J, K, L, M, N)] : List PKt)), .sc (I4 (0))], [])) (cond (decide (List.length (List.getD x5 (Int.toNat 0) []) + List.length [((F, G, I, J, K, L, M, N), O)] ≤ nat_lit 2147483648)) (some ([.agg [I4 (x0), I4 (x1), I4 (x2), I4 (x3), I4 (x4), .d 51 (.list 55 QDy) ([List.getD x5 (Int.toNat 0) [] ++ [((F, G, I, J, K, L, M, N), O)]] : List (List (PKt × Int))), I4 (x6), I4 (x7), I4 (x8), I4 (x9), I4 (A), I4 (B), I4 (C), I4 (O), .int .u64 (E)], .sc (.d 30 PKy ([] : List PKt)), .sc (I4 (0))], [])) none)) none) none)) none)) none)) (by kernel_rfl) ?_
 unfold v13
 refine zc ?_ ?_
 refine zc ?_ ?_
 rfl
 refine zc ?_ ?_
 refine zc ?_ ?_
 rfl
 refine zc ?_ ?_
 refine zc ?_ ?_
 refine zc ?_ ?_
 rfl
 refine zc ?_ ?_
 rfl
 rfl
 rfl
 rfl
 rfl
 rfl
noncomputable def sv13 : OrcS := fun al H => dC al fun y1 l2 => dA y1 fun y3 => dK y3 fun x0 l4 => dK l4 fun x1 l5 => dK l5 fun x2 l6 => dK l6 fun x3 l7 => dK l7 fun x4 l8 => dC l8 fun y9 l10 => dD 51 (.list 55 QDy) y9 fun x5 => dK l10 fun x6 l11 => dK l11 fun x7 l12 => dK l12 fun x8 l13 => dK l13 fun x9 l14 => dK l14 fun A l15 => dK l15 fun B l16 => dK l16 fun C l17 => dK l17 fun D l18 => dCI .u64 l18 fun E l19 => dE l19 <| dC l2 fun y20 l21 => dA y20 fun y22 => dK y22 fun F l23 => dK l23 fun G l24 => dK l24 fun I l25 => dK l25 fun J l26 => dK l26 fun K l27 => dK l27 fun L l28 => dC l28 fun y29 l30 => zA y29 fun M => dC l30 fun y31 l32 => zA y31 fun N => dE l32 <| dC l21 fun y33 l34 => dS y33 fun y35 => yX .i64 y35 fun O => dE l34 <| dE H <|  some [(ok (v13 x0 x1 x2 x3 x4 x5 x6 x7 x8 x9 A B C D E F G I J K L M N O), [.agg [I4 ((val (v13 x0 x1 x2 x3 x4 x5 x6 x7 x8 x9 A B C D E F G I J K L M N O)).1), I4 ((val (v13 x0 x1 x2 x3 x4 x5 x6 x7 x8 x9 A B C D E F G I J K L M N O)).2.1), I4 ((val (v13 x0 x1 x2 x3 x4 x5 x6 x7 x8 x9 A B C D E F G I J K L M N O)).2.2.1), I4 ((val (v13 x0 x1 x2 x3 x4 x5 x6 x7 x8 x9 A B C D E F G I J K L M N O)).2.2.2.1), I4 ((val (v13 x0 x1 x2 x3 x4 x5 x6 x7 x8 x9 A B C D E F G I J K L M N O)).2.2.2.2.1), .d 51 (.list 55 QDy) ((val (v13 x0 x1 x2 x3 x4 x5 x6 x7 x8 x9 A B C D E F G I J K L M N O)).2.2.2.2.2.1 : List (List (PKt × Int))), I4 ((val (v13 x0 x1 x2 x3 x4 x5 x6 x7 x8 x9 A B C D E F G I J K L M N O)).2.2.2.2.2.2.1), I4 ((val (v13 x0 x1 x2 x3 x4 x5 x6 x7 x8 x9 A B C D E F G I J K L M N O)).2.2.2.2.2.2.2.1), I4 ((val (v13 x0 x1 x2 x3 x4 x5 x6 x7 x8 x9 A B C D E F G I J K L M N O)).2.2.2.2.2.2.2.2.1), I4 ((val (v13 x0 x1 x2 x3 x4 x5 x6 x7 x8 x9 A B C D E F G I J K L M N O)).2.2.2.2.2.2.2.2.2.1), I4 ((val (v13 x0 x1 x2 x3 x4 x5 x6 x7 x8 x9 A B C D E F G I J K L M N O)).2.2.2.2.2.2.2.2.2.2.1), I4 ((val (v13 x0 x1 x2 x3 x4 x5 x6 x7 x8 x9 A B C D E F G I J K L M N O)).2.2.2.2.2.2.2.2.2.2.2.1), I4 ((val (v13 x0 x1 x2 x3 x4 x5 x6 x7 x8 x9 A B C D E F G I J K L M N O)).2.2.2.2.2.2.2.2.2.2.2.2.1), I4 ((val (v13 x0 x1 x2 x3 x4 x5 x6 x7 x8 x9 A B C D E F G I J K L M N O)).2.2.2.2.2.2.2.2.2.2.2.2.2.1), .int .u64 ((val (v13 x0 x1 x2 x3 x4 x5 x6 x7 x8 x9 A B C D E F G I J K L M N O)).2.2.2.2.2.2.2.2.2.2.2.2.2.2.1)], .sc (.d 30 PKy ((val (v13 x0 x1 x2 x3 x4 x5 x6 x7 x8 x9 A B C D E F G I J K L M N O)).2.2.2.2.2.2.2.2.2.2.2.2.2.2.2.1 : List PKt)), .sc (I4 ((val (v13 x0 x1 x2 x3 x4 x5 x6 x7 x8 x9 A B C D E F G I J K L M N O)).2.2.2.2.2.2.2.2.2.2.2.2.2.2.2.2))], [])]
theorem wv13 : zI Try.prog dOk base o44 t44 (13, sv13) := by
 intro al H q hq0 rs H2 h2
 have hq : sv13 al H = some q := hq0
 clear hq0
 unfold sv13 at hq
 replace hq := dCq hq; obtain ⟨_, _, rfl, hq⟩ := hq
 replace hq := dAq hq; obtain ⟨_, rfl, hq⟩ := hq
 replace hq := dJ5 hq; obtain ⟨_, _, _, _, _, _, rfl, hq⟩ := hq
 replace hq := dCq hq; obtain ⟨_, _, rfl, hq⟩ := hq
 replace hq := dDq hq; obtain ⟨_, rfl, hq⟩ := hq
 replace hq := dJ9 hq; obtain ⟨_, _, _, _, _, _, _, _, _, _, rfl, hq⟩ := hq
 replace hq := dEq hq; obtain ⟨rfl, hq⟩ := hq
 replace hq := dCq hq; obtain ⟨_, _, rfl, hq⟩ := hq
 replace hq := dAq hq; obtain ⟨_, rfl, hq⟩ := hq
 replace hq := dJ6 hq; obtain ⟨_, _, _, _, _, _, _, rfl, hq⟩ := hq
 replace hq := dCq hq; obtain ⟨_, _, rfl, hq⟩ := hq
 replace hq := zr hq; obtain ⟨_, rfl, hq⟩ := hq
 replace hq := dCq hq; obtain ⟨_, _, rfl, hq⟩ := hq
 replace hq := zr hq; obtain ⟨_, rfl, hq⟩ := hq
 replace hq := dEq hq; obtain ⟨rfl, hq⟩ := hq
 replace hq := dCq hq; obtain ⟨_, _, rfl, hq⟩ := hq
 replace hq := dSq hq; obtain ⟨_, rfl, hq⟩ := hq
 replace hq := yS hq; obtain ⟨_, rfl, hq⟩ := hq
 replace hq := dEq hq; obtain ⟨rfl, hq⟩ := hq
 replace hq := dEq hq; obtain ⟨rfl, hq⟩ := hq
 cases hq
 obtain ⟨hc0, rfl, rfl⟩ := zq h2
 exact ⟨41, (zW (by kernel_rfl)).trans ((ev13 _ _ _ _ _ _ _ _ _ _ _ _ _ _ _ _ _ _ _ _ _ _ _ _).trans (zE (zk hc0)))⟩
noncomputable def o45 : OrcT := (13, sv13) :: o44
noncomputable def t45 : TellT := t44
noncomputable abbrev tn45 : FuncId → TAn := zj base o45 t45
theorem ok45 : TnOk Try.prog tn45 (mkA base) dOk := by
 have h0 : TnOk Try.prog (tn44) (mkA base) dOk := ok44
 have h1 := zM h0 h0 (p := (13, sv13)) wv13
 exact h1
noncomputable def Lad : Nat → Int → Int → Int → Int → Int → Int → (List (List (PKt × Int))) → Int → Int → Int → Int → Int → Int → Int → Int → Int → Int → Int → Int → Int → Int → Int → Int → Int → Int → Int → Int → Int → Int → Int → Int → Int → Int → Int → Int → Int → Bool → Bool → (List (PKt × Int)) → (List PKt) → (List (List (PKt × Int))) → Option ((Bool × Int × (List (List (PKt × Int))) × Int × Int × Int × Int × Int × Int × Int × Int × Bool × Bool × (List PKt)) ⊕ (Int × Int × (List (PKt × Int)) × (List PKt)))
 | 0, _, _, _, _, _, _, _, _, _, _, _, _, _, _, _, _, _, _, _, _, _, _, _, _, _, _, _, _, _, _, _, _, _, _, _, _, _, _, _, _, _ => none
 | n + 1, x0, x1, x2, x3, x4, x5, x6, x7, x8, x9, A, B, C, D, E, F, G, I, J, K, L, M, N, O, P, Q, R, T, U, V, W, X, Y, x33, x34, x35, x36, x37, x38, x39, x40 => (cond (decide ((x38.length : Int) > 0)) (cond (decide (Int.toNat 0 < List.length x38)) (cond (decide (Int.toNat (1 : Int) ≤ List.length x38)) (cond (decide (List.length x38 ≤ List.length x38)) (cond (decide (Int.toNat (1 : Int) + (List.length x38 - Int.toNat (1 : Int)) ≤ List.length x38)) (cond (decide (List.length (List.take (List.length x38 - Int.toNat (1 : Int)) (List.drop (Int.toNat (1 : Int)) x38)) ≤ nat_lit 2147483648)) (cond (decide (IntKind.wrap IntKind.i64 (x0 - (List.getD x38 (Int.toNat 0) (PKz, (0 : Int))).2) < x2)) (cond (List.getD x38 (Int.toNat 0) (PKz, (0 : Int))).1.2.2.2.2.2.2.2 (some (.inl (true, 0, [List.take (List.length x38 - Int.toNat (1 : Int)) (List.drop (Int.toNat (1 : Int)) x38)], 0, 0, (List.getD x38 (Int.toNat 0) (PKz, (0 : Int))).1.1, (List.getD x38 (Int.toNat 0) (PKz, (0 : Int))).1.2.1, (List.getD x38 (Int.toNat 0) (PKz, (0 : Int))).1.2.2.1, (List.getD x38 (Int.toNat 0) (PKz, (0 : Int))).1.2.2.2.1, (List.getD x38 (Int.toNat 0) (PKz, (0 : Int))).1.2.2.2.2.1, (List.getD x38 (Int.toNat 0) (PKz, (0 : Int))).1.2.2.2.2.2.1, (List.getD x38 (Int.toNat 0) (PKz, (0 : Int))).1.2.2.2.2.2.2.1, true, x39))) (some (.inl (true, 0, [List.take (List.length x38 - Int.toNat (1 : Int)) (List.drop (Int.toNat (1 : Int)) x38)], 0, 0, (List.getD x38 (Int.toNat 0) (PKz, (0 : Int))).1.1, (List.getD x38 (Int.toNat 0) (PKz, (0 : Int))).1.2.1, (List.getD x38 (Int.toNat 0) (PKz, (0 : Int))).1.2.2.1, (List.getD x38 (Int.toNat 0) (PKz, (0 : Int))).1.2.2.2.1, (List.getD x38 (Int.toNat 0) (PKz, (0 : Int))).1.2.2.2.2.1, (List.getD x38 (Int.toNat 0) (PKz, (0 : Int))).1.2.2.2.2.2.1, (List.getD x38 (Int.toNat 0) (PKz, (0 : Int))).1.2.2.2.2.2.2.1, false, x39)))) (cond (x7 == 0) (cond (List.getD x38 (Int.toNat 0) (PKz, (0 : Int))).1.2.2.2.2.2.2.2 (some (.inl (true, 0, [List.take (List.length x38 - Int.toNat (1 : Int)) (List.drop (Int.toNat (1 : Int)) x38)], IntKind.wrap IntKind.i64 (IntKind.wrap IntKind.i64 (x0 + x3) + (1 : Int)), x8, (List.getD x38 (Int.toNat 0) (PKz, (0 : Int))).1.1, (List.getD x38 (Int.toNat 0) (PKz, (0 : Int))).1.2.1, (List.getD x38 (Int.toNat 0) (PKz, (0 : Int))).1.2.2.1, (List.getD x38 (Int.toNat 0) (PKz, (0 : Int))).1.2.2.2.1, (List.getD x38 (Int.toNat 0) (PKz, (0 : Int))).1.2.2.2.2.1, (List.getD x38 (Int.toNat 0) (PKz, (0 : Int))).1.2.2.2.2.2.1, (List.getD x38 (Int.toNat 0) (PKz, (0 : Int))).1.2.2.2.2.2.2.1, true, x39))) (some (.inl (true, 0, [List.take (List.length x38 - Int.toNat (1 : Int)) (List.drop (Int.toNat (1 : Int)) x38)], IntKind.wrap IntKind.i64 (IntKind.wrap IntKind.i64 (x0 + x3) + (1 : Int)), x8, (List.getD x38 (Int.toNat 0) (PKz, (0 : Int))).1.1, (List.getD x38 (Int.toNat 0) (PKz, (0 : Int))).1.2.1, (List.getD x38 (Int.toNat 0) (PKz, (0 : Int))).1.2.2.1, (List.getD x38 (Int.toNat 0) (PKz, (0 : Int))).1.2.2.2.1, (List.getD x38 (Int.toNat 0) (PKz, (0 : Int))).1.2.2.2.2.1, (List.getD x38 (Int.toNat 0) (PKz, (0 : Int))).1.2.2.2.2.2.1, (List.getD x38 (Int.toNat 0) (PKz, (0 : Int))).1.2.2.2.2.2.2.1, false, x39)))) (cond (decide (x0 ≥ IntKind.wrap IntKind.i64 (x7 - (1 : Int)))) (cond (decide (IntKind.wrap IntKind.i64 (min (1000000000 : Int) (IntKind.wrap IntKind.i64 (x8 + (1 : Int))) + (1 : Int)) ≠ 0)) (cond (!(List.getD x38 (Int.toNat 0) (PKz, (0 : Int))).1.2.2.2.2.2.2.1) (cond (decide (List.length x39 + List.length [((List.getD x38 (Int.toNat 0) (PKz, (0 : Int))).1.1, (List.getD x38 (Int.toNat 0) (PKz, (0 : Int))).1.2.1, (List.getD x38 (Int.toNat 0) (PKz, (0 : Int))).1.2.2.1, (List.getD x38 (Int.toNat 0) (PKz, (0 : Int))).1.2.2.2.1, (List.getD x38 (Int.toNat 0) (PKz, (0 : Int))).1.2.2.2.2.1, (List.getD x38 (Int.toNat 0) (PKz, (0 : Int))).1.2.2.2.2.2.1, (List.getD x38 (Int.toNat 0) (PKz, (0 : Int))).1.2.2.2.2.2.2.1, (List.getD x38 (Int.toNat 0) (PKz, (0 : Int))).1.2.2.2.2.2.2.2)] ≤ nat_lit 2147483648)) (Lad n x0 x1 x2 x3 x4 x5 x6 (IntKind.wrap IntKind.i64 (x7 + max (1 : Int) (IntKind.wrap IntKind.i64 (Int.tdiv x3 (IntKind.wrap IntKind.i64 (min (1000000000 : Int) (IntKind.wrap IntKind.i64 (x8 + (1 : Int))) + (1 : Int))))))) (min (1000000000 : Int) (IntKind.wrap IntKind.i64 (x8 + (1 : Int)))) x9 A B C D E F G I J K L M N O P Q R T U V W X Y x33 x34 x35 x36 x37 (List.take (List.length x38 - Int.toNat (1 : Int)) (List.drop (Int.toNat (1 : Int)) x38)) (x39 ++ [((List.getD x38 (Int.toNat 0) (PKz, (0 : Int))).1.1, (List.getD x38 (Int.toNat 0) (PKz, (0 : Int))).1.2.1, (List.getD x38 (Int.toNat 0) (PKz, (0 : Int))).1.2.2.1, (List.getD x38 (Int.toNat 0) (PKz, (0 : Int))).1.2.2.2.1, (List.getD x38 (Int.toNat 0) (PKz, (0 : Int))).1.2.2.2.2.1, (List.getD x38 (Int.toNat 0) (PKz, (0 : Int))).1.2.2.2.2.2.1, (List.getD x38 (Int.toNat 0) (PKz, (0 : Int))).1.2.2.2.2.2.2.1, (List.getD x38 (Int.toNat 0) (PKz, (0 : Int))).1.2.2.2.2.2.2.2)]) x40) none) (cond (List.getD x38 (Int.toNat 0) (PKz, (0 : Int))).1.2.2.2.2.2.2.2 (some (.inl (true, 0, [List.take (List.length x38 - Int.toNat (1 : Int)) (List.drop (Int.toNat (1 : Int)) x38)], IntKind.wrap IntKind.i64 (x7 + max (1 : Int) (IntKind.wrap IntKind.i64 (Int.tdiv x3 (IntKind.wrap IntKind.i64 (min (1000000000 : Int) (IntKind.wrap IntKind.i64 (x8 + (1 : Int))) + (1 : Int)))))), min (1000000000 : Int) (IntKind.wrap IntKind.i64 (x8 + (1 : Int))), (List.getD x38 (Int.toNat 0) (PKz, (0 : Int))).1.1, (List.getD x38 (Int.toNat 0) (PKz, (0 : Int))).1.2.1, (List.getD x38 (Int.toNat 0) (PKz, (0 : Int))).1.2.2.1, (List.getD x38 (Int.toNat 0) (PKz, (0 : Int))).1.2.2.2.1, (List.getD x38 (Int.toNat 0) (PKz, (0 : Int))).1.2.2.2.2.1, (List.getD x38 (Int.toNat 0) (PKz, (0 : Int))).1.2.2.2.2.2.1, (List.getD x38 (Int.toNat 0) (PKz, (0 : Int))).1.2.2.2.2.2.2.1, true, x39))) (some (.inl (true, 0, [List.take (List.length x38 - Int.toNat (1 : Int)) (List.drop (Int.toNat (1 : Int)) x38)], IntKind.wrap IntKind.i64 (x7 + max (1 : Int) (IntKind.wrap IntKind.i64 (Int.tdiv x3 (IntKind.wrap IntKind.i64 (min (1000000000 : Int) (IntKind.wrap IntKind.i64 (x8 + (1 : Int))) + (1 : Int)))))), min (1000000000 : Int) (IntKind.wrap IntKind.i64 (x8 + (1 : Int))), (List.getD x38 (Int.toNat 0) (PKz, (0 : Int))).1.1, (List.getD x38 (Int.toNat 0) (PKz, (0 : Int))).1.2.1, (List.getD x38 (Int.toNat 0) (PKz, (0 : Int))).1.2.2.1, (List.getD x38 (Int.toNat 0) (PKz, (0 : Int))).1.2.2.2.1, (List.getD x38 (Int.toNat 0) (PKz, (0 : Int))).1.2.2.2.2.1, (List.getD x38 (Int.toNat 0) (PKz, (0 : Int))).1.2.2.2.2.2.1, (List.getD x38 (Int.toNat 0) (PKz, (0 : Int))).1.2.2.2.2.2.2.1, true, x39))))) none) (cond (List.getD x38 (Int.toNat 0) (PKz, (0 : Int))).1.2.2.2.2.2.2.2 (some (.inl (true, 0, [List.take (List.length x38 - Int.toNat (1 : Int)) (List.drop (Int.toNat (1 : Int)) x38)], x7, x8, (List.getD x38 (Int.toNat 0) (PKz, (0 : Int))).1.1, (List.getD x38 (Int.toNat 0) (PKz, (0 : Int))).1.2.1, (List.getD x38 (Int.toNat 0) (PKz, (0 : Int))).1.2.2.1, (List.getD x38 (Int.toNat 0) (PKz, (0 : Int))).1.2.2.2.1, (List.getD x38 (Int.toNat 0) (PKz, (0 : Int))).1.2.2.2.2.1, (List.getD x38 (Int.toNat 0) (PKz, (0 : Int))).1.2.2.2.2.2.1, (List.getD x38 (Int.toNat 0) (PKz, (0 : Int))).1.2.2.2.2.2.2.1, true, x39))) (some (.inl (true, 0, [List.take (List.length x38 - Int.toNat (1 : Int)) (List.drop (Int.toNat (1 : Int)) x38)], x7, x8, (List.getD x38 (Int.toNat 0) (PKz, (0 : Int))).1.1, (List.getD x38 (Int.toNat 0) (PKz, (0 : Int))).1.2.1, (List.getD x38 (Int.toNat 0) (PKz, (0 : Int))).1.2.2.1, (List.getD x38 (Int.toNat 0) (PKz, (0 : Int))).1.2.2.2.1, (List.getD x38 (Int.toNat 0) (PKz, (0 : Int))).1.2.2.2.2.1, (List.getD x38 (Int.toNat 0) (PKz, (0 : Int))).1.2.2.2.2.2.1, (List.getD x38 (Int.toNat 0) (PKz, (0 : Int))).1.2.2.2.2.2.2.1, false, x39))))))) none) none) none) none) none) (some (.inr (x7, x8, x38, x39))))
theorem qLad : type_of% @Lad.eq_2 := @Lad.eq_2
noncomputable def xLad (x0 x1 x2 x3 x4 x5 : Int) (x6 : (List (List (PKt × Int)))) (x7 x8 x9 A B C D E F G I J K L M N O P Q R T U V W X Y x33 x34 x35 : Int) (x36 : Bool) (x37 : Bool) (x38 : (List (PKt × Int))) (x39 : (List PKt)) (x40 : (List (List (PKt × Int)))) : ((Bool × Int × (List (List (PKt × Int))) × Int × Int × Int × Int × Int × Int × Int × Int × Bool × Bool × (List PKt)) ⊕ (Int × Int × (List (PKt × Int)) × (List PKt))) → Ex × CS := fun r => match r with | .inl a0 => (.ret, { sl := [(4, .l 4 0), (5, .l 5 0), (6, .v (.sc (.bool (a0.1)))), (7, .v (.sc (.g 0))), (8, .v (.sc (I4 (a0.2.1))))], lo := [(4, [I4 (x1), I4 (x2), I4 (x3), I4 (x4), I4 (x5), .d 51 (.list 55 QDy) (a0.2.2.1 : List (List (PKt × Int))), I4 (a0.2.2.2.1), I4 (a0.2.2.2.2.1), I4 (x9), I4 (A), I4 (B), I4 (C), I4 (D), I4 (x0), .int .u64 (F)]), (5, [I4 (a0.2.2.2.2.2.1), I4 (a0.2.2.2.2.2.2.1), I4 (a0.2.2.2.2.2.2.2.1), I4 (a0.2.2.2.2.2.2.2.2.1), I4 (a0.2.2.2.2.2.2.2.2.2.1), I4 (a0.2.2.2.2.2.2.2.2.2.2.1), .bool (a0.2.2.2.2.2.2.2.2.2.2.2.1), .bool (a0.2.2.2.2.2.2.2.2.2.2.2.2.1)])], h := [.row 30 PKy (a0.2.2.2.2.2.2.2.2.2.2.2.2.2 : List PKt)], n0 := 0, w := true }) | .inr b0 => ((.exit 0), { sl := [(1, .v (.sc (I4 x0))), (2, .l 2 0), (4, .l 4 0), (5, .l 5 0), (10, .v (.sc (.g 0))), (11, .v (.sc (.g 1)))], lo := [(2, [I4 (x1), I4 (x2), I4 (x3), I4 (x4), I4 (x5), .d 51 (.list 55 QDy) (x6), I4 (b0.1), I4 (b0.2.1), I4 (x9), I4 (A), I4 (B), I4 (C), I4 (D), I4 (E), .int .u64 (F)]), (4, [I4 (G), I4 (I), I4 (J), I4 (K), I4 (L), .g 2, I4 (M), I4 (N), I4 (O), I4 (P), I4 (Q), I4 (R), I4 (T), I4 (U), .int .u64 (V)]), (5, [I4 (W), I4 (X), I4 (Y), I4 (x33), I4 (x34), I4 (x35), .bool (x36), .bool (x37)])], h := [.row 55 QDy (b0.2.2.1 : List (PKt × Int)), .row 30 PKy (b0.2.2.2 : List PKt), .row 51 (.list 55 QDy) (x40)], n0 := 0, w := false })
theorem bLad (k : Nat) (cN : CS → Option (Ex × CS)) (cX : Ex → CS → Option (Ex × CS)) (x0 x1 x2 x3 x4 x5 : Int) (x6 : (List (List (PKt × Int)))) (x7 x8 x9 A B C D E F G I J K L M N O P Q R T U V W X Y x33 x34 x35 : Int) (x36 : Bool) (x37 : Bool) (x38 : (List (PKt × Int))) (x39 : (List PKt)) (x40 : (List (List (PKt × Int)))) : xl Try.prog (tn45 15) (TM.evF Try.prog (tn45) dOk (k + 40)) dOk (k + 40) (zh Try.prog (tn0 15) 15 0) 0 0 { sl := [(1, .v (.sc (I4 x0))), (2, .l 2 0), (4, .l 4 0), (5, .l 5 0), (10, .v (.sc (.g 0))), (11, .v (.sc (.g 1)))], lo := [(2, [I4 (x1), I4 (x2), I4 (x3), I4 (x4), I4 (x5), .d 51 (.list 55 QDy) (x6), I4 (x7), I4 (x8), I4 (x9), I4 (A), I4 (B), I4 (C), I4 (D), I4 (E), .int .u64 (F)]), (4, [I4 (G), I4 (I), I4 (J), I4 (K), I4 (L), .g 2, I4 (M), I4 (N), I4 (O), I4 (P), I4 (Q), I4 (R), I4 (T), I4 (U), .int .u64 (V)]), (5, [I4 (W), I4 (X), I4 (Y), I4 (x33), I4 (x34), I4 (x35), .bool (x36), .bool (x37)])], h := [.row 55 QDy (x38), .row 30 PKy (x39), .row 51 (.list 55 QDy) (x40)], n0 := 0, w := false } cN cX = (cond (decide ((x38.length : Int) > 0)) (cond (decide (0 < (x38.length : Int))) (cond (decide (Int.toNat 0 < List.length x38)) (cond (decide (0 < (x38.length : Int))) (cond (decide (Int.toNat 0 < List.length x38)) (cond (decide (Int.toNat (1 : Int) ≤ List.length x38)) (cond (decide (List.length x38 ≤ List.length x38)) (cond (decide (List.length x38 ≤ List.length x38)) (cond (decide (Int.toNat (1 : Int) + (List.length x38 - Int.toNat (1 : Int)) ≤ List.length x38)) (cond (decide (List.length (List.take (List.length x38 - Int.toNat (1 : Int)) (List.drop (Int.toNat (1 : Int)) x38)) ≤ nat_lit 2147483648)) (cond (decide (IntKind.wrap IntKind.i64 (x0 - (List.getD x38 (Int.toNat 0) (PKz, (0 : Int))).2) < x2)) (cond (List.getD x38 (Int.toNat 0) (PKz, (0 : Int))).1.2.2.2.2.2.2.2 (cX .ret { sl := [(4, .l 4 0), (5, .l 5 0), (6, .v (.sc (.bool (true)))), (7, .v (.sc (.g 0))), (8, .v (.sc (I4 (0))))], lo := [(4, [I4 (x1), I4 (x2), I4 (x3), I4 (x4), I4 (x5), .d 51 (.list 55 QDy) ([List.take (List.length x38 - Int.toNat (1 : Int)) (List.drop (Int.toNat (1 : Int)) x38)] : List (List (PKt × Int))), I4 (0), I4 (0), I4 (x9), I4 (A), I4 (B), I4 (C), I4 (D), I4 (x0), .int .u64 (F)]), (5, [I4 (List.getD x38 (Int.toNat 0) (PKz, (0 : Int))).1.1, I4 (List.getD x38 (Int.toNat 0) (PKz, (0 : Int))).1.2.1, I4 (List.getD x38 (Int.toNat 0) (PKz, (0 : Int))).1.2.2.1, I4 (List.getD x38 (Int.toNat 0) (PKz, (0 : Int))).1.2.2.2.1, I4 (List.getD x38 (Int.toNat 0) (PKz, (0 : Int))).1.2.2.2.2.1, I4 (List.getD x38 (Int.toNat 0) (PKz, (0 : Int))).1.2.2.2.2.2.1, .bool (List.getD x38 (Int.toNat 0) (PKz, (0 : Int))).1.2.2.2.2.2.2.1, .bool (true)])], h := [.row 30 PKy (x39)], n0 := 0, w := true }) (cX .ret { sl := [(4, .l 4 0), (5, .l 5 0), (6, .v (.sc (.bool (true)))), (7, .v (.sc (.g 0))), (8, .v (.sc (I4 (0))))], lo := [(4, [I4 (x1), I4 (x2), I4 (x3), I4 (x4), I4 (x5), .d 51 (.list 55 QDy) ([List.take (List.length x38 - Int.toNat (1 : Int)) (List.drop (Int.toNat (1 : Int)) x38)] : List (List (PKt × Int))), I4 (0), I4 (0), I4 (x9), I4 (A), I4 (B), I4 (C), I4 (D), I4 (x0), .int .u64 (F)]), (5, [I4 (List.getD x38 (Int.toNat 0) (PKz, (0 : Int))).1.1, I4 (List.getD x38 (Int.toNat 0) (PKz, (0 : Int))).1.2.1, I4 (List.getD x38 (Int.toNat 0) (PKz, (0 : Int))).1.2.2.1, I4 (List.getD x38 (Int.toNat 0) (PKz, (0 : Int))).1.2.2.2.1, I4 (List.getD x38 (Int.toNat 0) (PKz, (0 : Int))).1.2.2.2.2.1, I4 (List.getD x38 (Int.toNat 0) (PKz, (0 : Int))).1.2.2.2.2.2.1, .bool (List.getD x38 (Int.toNat 0) (PKz, (0 : Int))).1.2.2.2.2.2.2.1, .bool (false)])], h := [.row 30 PKy (x39)], n0 := 0, w := true })) (cond (x7 == 0) (cond (List.getD x38 (Int.toNat 0) (PKz, (0 : Int))).1.2.2.2.2.2.2.2 (cX .ret { sl := [(4, .l 4 0), (5, .l 5 0), (6, .v (.sc (.bool (true)))), (7, .v (.sc (.g 0))), (8, .v (.sc (I4 (0))))], lo := [(4, [I4 (x1), I4 (x2), I4 (x3), I4 (x4), I4 (x5), .d 51 (.list 55 QDy) ([List.take (List.length x38 - Int.toNat (1 : Int)) (List.drop (Int.toNat (1 : Int)) x38)] : List (List (PKt × Int))), I4 (IntKind.wrap IntKind.i64 (IntKind.wrap IntKind.i64 (x0 + x3) + (1 : Int))), I4 (x8), I4 (x9), I4 (A), I4 (B), I4 (C), I4 (D), I4 (x0), .int .u64 (F)]), (5, [I4 (List.getD x38 (Int.toNat 0) (PKz, (0 : Int))).1.1, I4 (List.getD x38 (Int.toNat 0) (PKz, (0 : Int))).1.2.1, I4 (List.getD x38 (Int.toNat 0) (PKz, (0 : Int))).1.2.2.1, I4 (List.getD x38 (Int.toNat 0) (PKz, (0 : Int))).1.2.2.2.1, I4 (List.getD x38 (Int.toNat 0) (PKz, (0 : Int))).1.2.2.2.2.1, I4 (List.getD x38 (Int.toNat 0) (PKz, (0 : Int))).1.2.2.2.2.2.1, .bool (List.getD x38 (Int.toNat 0) (PKz, (0 : Int))).1.2.2.2.2.2.2.1, .bool (true)])], h := [.row 30 PKy (x39)], n0 := 0, w := true }) (cX .ret { sl := [(4, .l 4 0), (5, .l 5 0), (6, .v (.sc (.bool (true)))), (7, .v (.sc (.g 0))), (8, .v (.sc (I4 (0))))], lo := [(4, [I4 (x1), I4 (x2), I4 (x3), I4 (x4), I4 (x5), .d 51 (.list 55 QDy) ([List.take (List.length x38 - Int.toNat (1 : Int)) (List.drop (Int.toNat (1 : Int)) x38)] : List (List (PKt × Int))), I4 (IntKind.wrap IntKind.i64 (IntKind.wrap IntKind.i64 (x0 + x3) + (1 : Int))), I4 (x8), I4 (x9), I4 (A), I4 (B), I4 (C), I4 (D), I4 (x0), .int .u64 (F)]), (5, [I4 (List.getD x38 (Int.toNat 0) (PKz, (0 : Int))).1.1, I4 (List.getD x38 (Int.toNat 0) (PKz, (0 : Int))).1.2.1, I4 (List.getD x38 (Int.toNat 0) (PKz, (0 : Int))).1.2.2.1, I4 (List.getD x38 (Int.toNat 0) (PKz, (0 : Int))).1.2.2.2.1, I4 (List.getD x38 (Int.toNat 0) (PKz, (0 : Int))).1.2.2.2.2.1, I4 (List.getD x38 (Int.toNat 0) (PKz, (0 : Int))).1.2.2.2.2.2.1, .bool (List.getD x38 (Int.toNat 0) (PKz, (0 : Int))).1.2.2.2.2.2.2.1, .bool (false)])], h := [.row 30 PKy (x39)], n0 := 0, w := true })) (cond (decide (x0 ≥ IntKind.wrap IntKind.i64 (x7 - (1 : Int)))) (cond (decide (IntKind.wrap IntKind.i64 (min (1000000000 : Int) (IntKind.wrap IntKind.i64 (x8 + (1 : Int))) + (1 : Int)) ≠ 0)) (cond (!(List.getD x38 (Int.toNat 0) (PKz, (0 : Int))).1.2.2.2.2.2.2.1) (cond (decide (List.length x39 + List.length [((List.getD x38 (Int.toNat 0) (PKz, (0 : Int))).1.1, (List.getD x38 (Int.toNat 0) (PKz, (0 : Int))).1.2.1, (List.getD x38 (Int.toNat 0) (PKz, (0 : Int))).1.2.2.1, (List.getD x38 (Int.toNat 0) (PKz, (0 : Int))).1.2.2.2.1, (List.getD x38 (Int.toNat 0) (PKz, (0 : Int))).1.2.2.2.2.1, (List.getD x38 (Int.toNat 0) (PKz, (0 : Int))).1.2.2.2.2.2.1, (List.getD x38 (Int.toNat 0) (PKz, (0 : Int))).1.2.2.2.2.2.2.1, (List.getD x38 (Int.toNat 0) (PKz, (0 : Int))).1.2.2.2.2.2.2.2)] ≤ nat_lit 2147483648)) (cN { sl := [(1, .v (.sc (I4 x0))), (2, .l 2 0), (4, .l 4 0), (5, .l 5 0), (10, .v (.sc (.g 0))), (11, .v (.sc (.g 1)))], lo := [(2, [I4 (x1), I4 (x2), I4 (x3), I4 (x4), I4 (x5), .d 51 (.list 55 QDy) (x6), I4 (IntKind.wrap IntKind.i64 (x7 + max (1 : Int) (IntKind.wrap IntKind.i64 (Int.tdiv x3 (IntKind.wrap IntKind.i64 (min (1000000000 : Int) (IntKind.wrap IntKind.i64 (x8 + (1 : Int))) + (1 : Int))))))), I4 (min (1000000000 : Int) (IntKind.wrap IntKind.i64 (x8 + (1 : Int)))), I4 (x9), I4 (A), I4 (B), I4 (C), I4 (D), I4 (E), .int .u64 (F)]), (4, [I4 (G), I4 (I), I4 (J), I4 (K), I4 (L), .g 2, I4 (M), I4 (N), I4 (O), I4 (P), I4 (Q), I4 (R), I4 (T), I4 (U), .int .u64 (V)]), (5, [I4 (W), I4 (X), I4 (Y), I4 (x33), I4 (x34), I4 (x35), .bool (x36), .bool (x37)])], h := [.row 55 QDy (List.take (List.length x38 - Int.toNat (1 : Int)) (List.drop (Int.toNat (1 : Int)) x38) : List (PKt × Int)), .row 30 PKy (x39 ++ [((List.getD x38 (Int.toNat 0) (PKz, (0 : Int))).1.1, (List.getD x38 (Int.toNat 0) (PKz, (0 : Int))).1.2.1, (List.getD x38 (Int.toNat 0) (PKz, (0 : Int))).1.2.2.1, (List.getD x38 (Int.toNat 0) (PKz, (0 : Int))).1.2.2.2.1, (List.getD x38 (Int.toNat 0) (PKz, (0 : Int))).1.2.2.2.2.1, (List.getD x38 (Int.toNat 0) (PKz, (0 : Int))).1.2.2.2.2.2.1, (List.getD x38 (Int.toNat 0) (PKz, (0 : Int))).1.2.2.2.2.2.2.1, (List.getD x38 (Int.toNat 0) (PKz, (0 : Int))).1.2.2.2.2.2.2.2)] : List PKt), .row 51 (.list 55 QDy) (x40)], n0 := 0, w := false }) none) (cond (List.getD x38 (Int.toNat 0) (PKz, (0 : Int))).1.2.2.2.2.2.2.2 (cX .ret { sl := [(4, .l 4 0), (5, .l 5 0), (6, .v (.sc (.bool (true)))), (7, .v (.sc (.g 0))), (8, .v (.sc (I4 (0))))], lo := [(4, [I4 (x1), I4 (x2), I4 (x3), I4 (x4), I4 (x5), .d 51 (.list 55 QDy) ([List.take (List.length x38 - Int.toNat (1 : Int)) (List.drop (Int.toNat (1 : Int)) x38)] : List (List (PKt × Int))), I4 (IntKind.wrap IntKind.i64 (x7 + max (1 : Int) (IntKind.wrap IntKind.i64 (Int.tdiv x3 (IntKind.wrap IntKind.i64 (min (1000000000 : Int) (IntKind.wrap IntKind.i64 (x8 + (1 : Int))) + (1 : Int))))))), I4 (min (1000000000 : Int) (IntKind.wrap IntKind.i64 (x8 + (1 : Int)))), I4 (x9), I4 (A), I4 (B), I4 (C), I4 (D), I4 (x0), .int .u64 (F)]), (5, [I4 (List.getD x38 (Int.toNat 0) (PKz, (0 : Int))).1.1, I4 (List.getD x38 (Int.toNat 0) (PKz, (0 : Int))).1.2.1, I4 (List.getD x38 (Int.toNat 0) (PKz, (0 : Int))).1.2.2.1, I4 (List.getD x38 (Int.toNat 0) (PKz, (0 : Int))).1.2.2.2.1, I4 (List.getD x38 (Int.toNat 0) (PKz, (0 : Int))).1.2.2.2.2.1, I4 (List.getD x38 (Int.toNat 0) (PKz, (0 : Int))).1.2.2.2.2.2.1, .bool (List.getD x38 (Int.toNat 0) (PKz, (0 : Int))).1.2.2.2.2.2.2.1, .bool (true)])], h := [.row 30 PKy (x39)], n0 := 0, w := true }) (cX .ret { sl := [(4, .l 4 0), (5, .l 5 0), (6, .v (.sc (.bool (true)))), (7, .v (.sc (.g 0))), (8, .v (.sc (I4 (0))))], lo := [(4, [I4 (x1), I4 (x2), I4 (x3), I4 (x4), I4 (x5), .d 51 (.list 55 QDy) ([List.take (List.length x38 - Int.toNat (1 : Int)) (List.drop (Int.toNat (1 : Int)) x38)] : List (List (PKt × Int))), I4 (IntKind.wrap IntKind.i64 (x7 + max (1 : Int) (IntKind.wrap IntKind.i64 (Int.tdiv x3 (IntKind.wrap IntKind.i64 (min (1000000000 : Int) (IntKind.wrap IntKind.i64 (x8 + (1 : Int))) + (1 : Int))))))), I4 (min (1000000000 : Int) (IntKind.wrap IntKind.i64 (x8 + (1 : Int)))), I4 (x9), I4 (A), I4 (B), I4 (C), I4 (D), I4 (x0), .int .u64 (F)]), (5, [I4 (List.getD x38 (Int.toNat 0) (PKz, (0 : Int))).1.1, I4 (List.getD x38 (Int.toNat 0) (PKz, (0 : Int))).1.2.1, I4 (List.getD x38 (Int.toNat 0) (PKz, (0 : Int))).1.2.2.1, I4 (List.getD x38 (Int.toNat 0) (PKz, (0 : Int))).1.2.2.2.1, I4 (List.getD x38 (Int.toNat 0) (PKz, (0 : Int))).1.2.2.2.2.1, I4 (List.getD x38 (Int.toNat 0) (PKz, (0 : Int))).1.2.2.2.2.2.1, .bool (List.getD x38 (Int.toNat 0) (PKz, (0 : Int))).1.2.2.2.2.2.2.1, .bool (true)])], h := [.row 30 PKy (x39)], n0 := 0, w := true }))) none) (cond (List.getD x38 (Int.toNat 0) (PKz, (0 : Int))).1.2.2.2.2.2.2.2 (cX .ret { sl := [(4, .l 4 0), (5, .l 5 0), (6, .v (.sc (.bool (true)))), (7, .v (.sc (.g 0))), (8, .v (.sc (I4 (0))))], lo := [(4, [I4 (x1), I4 (x2), I4 (x3), I4 (x4), I4 (x5), .d 51 (.list 55 QDy) ([List.take (List.length x38 - Int.toNat (1 : Int)) (List.drop (Int.toNat (1 : Int)) x38)] : List (List (PKt × Int))), I4 (x7), I4 (x8), I4 (x9), I4 (A), I4 (B), I4 (C), I4 (D), I4 (x0), .int .u64 (F)]), (5, [I4 (List.getD x38 (Int.toNat 0) (PKz, (0 : Int))).1.1, I4 (List.getD x38 (Int.toNat 0) (PKz, (0 : Int))).1.2.1, I4 (List.getD x38 (Int.toNat 0) (PKz, (0 : Int))).1.2.2.1, I4 (List.getD x38 (Int.toNat 0) (PKz, (0 : Int))).1.2.2.2.1, I4 (List.getD x38 (Int.toNat 0) (PKz, (0 : Int))).1.2.2.2.2.1, I4 (List.getD x38 (Int.toNat 0) (PKz, (0 : Int))).1.2.2.2.2.2.1, .bool (List.getD x38 (Int.toNat 0) (PKz, (0 : Int))).1.2.2.2.2.2.2.1, .bool (true)])], h := [.row 30 PKy (x39)], n0 := 0, w := true }) (cX .ret { sl := [(4, .l 4 0), (5, .l 5 0), (6, .v (.sc (.bool (true)))), (7, .v (.sc (.g 0))), (8, .v (.sc (I4 (0))))], lo := [(4, [I4 (x1), I4 (x2), I4 (x3), I4 (x4), I4 (x5), .d 51 (.list 55 QDy) ([List.take (List.length x38 - Int.toNat (1 : Int)) (List.drop (Int.toNat (1 : Int)) x38)] : List (List (PKt × Int))), I4 (x7), I4 (x8), I4 (x9), I4 (A), I4 (B), I4 (C), I4 (D), I4 (x0), .int .u64 (F)]), (5, [I4 (List.getD x38 (Int.toNat 0) (PKz, (0 : Int))).1.1, I4 (List.getD x38 (Int.toNat 0) (PKz, (0 : Int))).1.2.1, I4 (List.getD x38 (Int.toNat 0) (PKz, (0 : Int))).1.2.2.1, I4 (List.getD x38 (Int.toNat 0) (PKz, (0 : Int))).1.2.2.2.1, I4 (List.getD x38 (Int.toNat 0) (PKz, (0 : Int))).1.2.2.2.2.1, I4 (List.getD x38 (Int.toNat 0) (PKz, (0 : Int))).1.2.2.2.2.2.1, .bool (List.getD x38 (Int.toNat 0) (PKz, (0 : Int))).1.2.2.2.2.2.2.1, .bool (false)])], h := [.row 30 PKy (x39)], n0 := 0, w := true }))))) none) none) none) none) none) none) none) none) none) (cX (.exit 0) { sl := [(1, .v (.sc (I4 x0))), (2, .l 2 0), (4, .l 4 0), (5, .l 5 0), (10, .v (.sc (.g 0))), (11, .v (.sc (.g 1)))], lo := [(2, [I4 (x1), I4 (x2), I4 (x3), I4 (x4), I4 (x5), .d 51 (.list 55 QDy) (x6), I4 (x7), I4 (x8), I4 (x9), I4 (A), I4 (B), I4 (C), I4 (D), I4 (E), .int .u64 (F)]), (4, [I4 (G), I4 (I), I4 (J), I4 (K), I4 (L), .g 2, I4 (M), I4 (N), I4 (O), I4 (P), I4 (Q), I4 (R), I4 (T), I4 (U), .int .u64 (V)]), (5, [I4 (W), I4 (X), I4 (Y), I4 (x33), I4 (x34), I4 (x35), .bool (x36), .bool (x37)])], h := [.row 55 QDy (x38), .row 30 PKy (x39), .row 51 (.list 55 QDy) (x40)], n0 := 0, w := false })) := by kernel_rfl
theorem lLad (k m : Nat) : ∀ (n : Nat) (x0 x1 x2 x3 x4 x5 : Int) (x6 : (List (List (PKt × Int)))) (x7 x8 x9 A B C D E F G I J K L M N O P Q R T U V W X Y x33 x34 x35 : Int) (x36 : Bool) (x37 : Bool) (x38 : (List (PKt × Int))) (x39 : (List PKt)) (x40 : (List (List (PKt × Int)))) (r : ((Bool × Int × (List (List (PKt × Int))) × Int × Int × Int × Int × Int × Int × Int × Int × Bool × Bool × (List PKt)) ⊕ (Int × Int × (List (PKt × Int)) × (List PKt)))), Lad n x0 x1 x2 x3 x4 x5 x6 x7 x8 x9 A B C D E F G I J K L M N O P Q R T U V W X Y x33 x34 x35 x36 x37 x38 x39 x40 = some r → wi Try.prog (tn45 15) (TM.evF Try.prog (tn45) dOk (k + 40)) dOk (k + 40) (zh Try.prog (tn0 15) 15 0) 0 0 (n + m) { sl := [(1, .v (.sc (I4 x0))), (2, .l 2 0), (4, .l 4 0), (5, .l 5 0), (10, .v (.sc (.g 0))), (11, .v (.sc (.g 1)))], lo := [(2, [I4 (x1), I4 (x2), I4 (x3), I4 (x4), I4 (x5), .d 51 (.list 55 QDy) (x6), I4 (x7), I4 (x8), I4 (x9), I4 (A), I4 (B), I4 (C), I4 (D), I4 (E), .int .u64 (F)]), (4, [I4 (G), I4 (I), I4 (J), I4 (K), I4 (L), .g 2, I4 (M), I4 (N), I4 (O), I4 (P), I4 (Q), I4 (R), I4 (T), I4 (U), .int .u64 (V)]), (5, [I4 (W), I4 (X), I4 (Y), I4 (x33), I4 (x34), I4 (x35), .bool (x36), .bool (x37)])], h := [.row 55 QDy (x38), .row 30 PKy (x39), .row 51 (.list 55 QDy) (x40)], n0 := 0, w := false } = some (xLad x0 x1 x2 x3 x4 x5 x6 x7 x8 x9 A B C D E F G I J K L M N O P Q R T U V W X Y x33 x34 x35 x36 x37 x38 x39 x40 r) := by
 intro n
 induction n with
 | zero => intro _ _ _ _ _ _ _ _ _ _ _ _ _ _ _ _ _ _ _ _ _ _ _ _ _ _ _ _ _ _ _ _ _ _ _ _ _ _ _ _ _ r h; cases h
 | succ n ih =>
  intro x0 x1 x2 x3 x4 x5 x6 x7 x8 x9 A B C D E F G I J K L M N O P Q R T U V W X Y x33 x34 x35 x36 x37 x38 x39 x40 r
  rw [show n + 1 + m = n + m + 1 by omega, xt, bLad, qLad]
  cases (decide ((x38.length : Int) > 0)) with
  | true =>
   cases (decide (Int.toNat 0 < List.length x38)) with
   | true =>
    cases (decide (Int.toNat (1 : Int) ≤ List.length x38)) with
    | true =>
     cases (decide (List.length x38 ≤ List.length x38)) with
     | true =>
      cases (decide (Int.toNat (1 : Int) + (List.length x38 - Int.toNat (1 : Int)) ≤ List.length x38)) with
      | true =>
       cases (decide (List.length (List.take (List.length x38 - Int.toNat (1 : Int)) (List.drop (Int.toNat (1 : Int)) x38)) ≤ nat_lit 2147483648)) with
       | true =>
        cases (decide (IntKind.wrap IntKind.i64 (x0 - (List.getD x38 (Int.toNat 0) (PKz, (0 : Int))).2) < x2)) with
        | true =>
         cases (List.getD x38 (Int.toNat 0) (PKz, (0 : Int))).1.2.2.2.2.2.2.2 with
         | true =>
          intro h; cases h; rfl
         | false =>
          intro h; cases h; rfl
        | false =>
         cases (x7 == 0) with
         | true =>
          cases (List.getD x38 (Int.toNat 0) (PKz, (0 : Int))).1.2.2.2.2.2.2.2 with
          | true =>
           intro h; cases h; rfl
          | false =>
           intro h; cases h; rfl
         | false =>
          cases (decide (x0 ≥ IntKind.wrap IntKind.i64 (x7 - (1 : Int)))) with
          | true =>
           cases (decide (IntKind.wrap IntKind.i64 (min (1000000000 : Int) (IntKind.wrap IntKind.i64 (x8 + (1 : Int))) + (1 : Int)) ≠ 0)) with
           | true =>
            cases (!(List.getD x38 (Int.toNat 0) (PKz, (0 : Int))).1.2.2.2.2.2.2.1) with
            | true =>
             cases (decide (List.length x39 + List.length [((List.getD x38 (Int.toNat 0) (PKz, (0 : Int))).1.1, (List.getD x38 (Int.toNat 0) (PKz, (0 : Int))).1.2.1, (List.getD x38 (Int.toNat 0) (PKz, (0 : Int))).1.2.2.1, (List.getD x38 (Int.toNat 0) (PKz, (0 : Int))).1.2.2.2.1, (List.getD x38 (Int.toNat 0) (PKz, (0 : Int))).1.2.2.2.2.1, (List.getD x38 (Int.toNat 0) (PKz, (0 : Int))).1.2.2.2.2.2.1, (List.getD x38 (Int.toNat 0) (PKz, (0 : Int))).1.2.2.2.2.2.2.1, (List.getD x38 (Int.toNat 0) (PKz, (0 : Int))).1.2.2.2.2.2.2.2)] ≤ nat_lit 2147483648)) with
             | true =>
              exact ih _ _ _ _ _ _ _ _ _ _ _ _ _ _ _ _ _ _ _ _ _ _ _ _ _ _ _ _ _ _ _ _ _ _ _ _ _ _ _ _ _ r
             | false =>
              intro h; cases h
            | false =>
             cases (List.getD x38 (Int.toNat 0) (PKz, (0 : Int))).1.2.2.2.2.2.2.2 with
             | true =>
              intro h; cases h; rfl
             | false =>
              intro h; cases h; rfl
           | false =>
            intro h; cases h
          | false =>
           cases (List.getD x38 (Int.toNat 0) (PKz, (0 : Int))).1.2.2.2.2.2.2.2 with
           | true =>
            intro h; cases h; rfl
           | false =>
            intro h; cases h; rfl
       | false =>
        intro h; cases h
      | false =>
       intro h; cases h
     | false =>
      intro h; cases h
    | false =>
     intro h; cases h
   | false =>
    intro h; cases h
  | false =>
   intro h; cases h; rfl
noncomputable def sLad : TellS := fun S => dCS 0 S fun y1 y2 y3 => dSI 1 .i64 y1 fun x0 l4 => dSt 2 l4 fun y6 l5 => dL 2 0 y6 <| dSt 4 l5 fun y8 l7 => dL 4 0 y8 <| dSt 5 l7 fun y10 l9 => dL 5 0 y10 <| dSs 10 l9 fun y12 l11 => dG 0 y12 <| dSs 11 l11 fun y14 l13 => dG 1 y14 <| dE l13 <| dLo 2 y2 fun y15 l16 => dK y15 fun x1 l17 => dK l17 fun x2 l18 => dK l18 fun x3 l19 => dK l19 fun x4 l20 => dK l20 fun x5 l21 => dC l21 fun y22 l23 => dD 51 (.list 55 QDy) y22 fun x6 => dK l23 fun x7 l24 => dK l24 fun x8 l25 => dK l25 fun x9 l26 => dK l26 fun A l27 => dK l27 fun B l28 => dK l28 fun C l29 => dK l29 fun D l30 => dK l30 fun E l31 => dCI .u64 l31 fun F l32 => dE l32 <| dLo 4 l16 fun y33 l34 => dK y33 fun G l35 => dK l35 fun I l36 => dK l36 fun J l37 => dK l37 fun K l38 => dK l38 fun L l39 => dC l39 fun y40 l41 => dG 2 y40 <| dK l41 fun M l42 => dK l42 fun N l43 => dK l43 fun O l44 => dK l44 fun P l45 => dK l45 fun Q l46 => dK l46 fun R l47 => dK l47 fun T l48 => dK l48 fun U l49 => dCI .u64 l49 fun V l50 => dE l50 <| dLo 5 l34 fun y51 l52 => dK y51 fun W l53 => dK l53 fun X l54 => dK l54 fun Y l55 => dK l55 fun x33 l56 => dK l56 fun x34 l57 => dK l57 fun x35 l58 => dC l58 fun y59 l60 => zA y59 fun x36 => dC l60 fun y61 l62 => zA y61 fun x37 => dE l62 <| dE l52 <| dHR 55 QDy y3 fun x38 l63 => dHR 30 PKy l63 fun x39 l64 => dHR 51 (.list 55 QDy) l64 fun x40 l65 => dE l65 <|  some [(isL (Lad FU x0 x1 x2 x3 x4 x5 x6 x7 x8 x9 A B C D E F G I J K L M N O P Q R T U V W X Y x33 x34 x35 x36 x37 x38 x39 x40), .ret, { sl := [(4, .l 4 0), (5, .l 5 0), (6, .v (.sc (.bool ((zb (Lad FU x0 x1 x2 x3 x4 x5 x6 x7 x8 x9 A B C D E F G I J K L M N O P Q R T U V W X Y x33 x34 x35 x36 x37 x38 x39 x40)).1)))), (7, .v (.sc (.g 0))), (8, .v (.sc (I4 ((zb (Lad FU x0 x1 x2 x3 x4 x5 x6 x7 x8 x9 A B C D E F G I J K L M N O P Q R T U V W X Y x33 x34 x35 x36 x37 x38 x39 x40)).2.1))))], lo := [(4, [I4 (x1), I4 (x2), I4 (x3), I4 (x4), I4 (x5), .d 51 (.list 55 QDy) ((zb (Lad FU x0 x1 x2 x3 x4 x5 x6 x7 x8 x9 A B C D E F G I J K L M N O P Q R T U V W X Y x33 x34 x35 x36 x37 x38 x39 x40)).2.2.1 : List (List (PKt × Int))), I4 ((zb (Lad FU x0 x1 x2 x3 x4 x5 x6 x7 x8 x9 A B C D E F G I J K L M N O P Q R T U V W X Y x33 x34 x35 x36 x37 x38 x39 x40)).2.2.2.1), I4 ((zb (Lad FU x0 x1 x2 x3 x4 x5 x6 x7 x8 x9 A B C D E F G I J K L M N O P Q R T U V W X Y x33 x34 x35 x36 x37 x38 x39 x40)).2.2.2.2.1), I4 (x9), I4 (A), I4 (B), I4 (C), I4 (D), I4 (x0), .int .u64 (F)]), (5, [I4 ((zb (Lad FU x0 x1 x2 x3 x4 x5 x6 x7 x8 x9 A B C D E F G I J K L M N O P Q R T U V W X Y x33 x34 x35 x36 x37 x38 x39 x40)).2.2.2.2.2.1), I4 ((zb (Lad FU x0 x1 x2 x3 x4 x5 x6 x7 x8 x9 A B C D E F G I J K L M N O P Q R T U V W X Y x33 x34 x35 x36 x37 x38 x39 x40)).2.2.2.2.2.2.1), I4 ((zb (Lad FU x0 x1 x2 x3 x4 x5 x6 x7 x8 x9 A B C D E F G I J K L M N O P Q R T U V W X Y x33 x34 x35 x36 x37 x38 x39 x40)).2.2.2.2.2.2.2.1), I4 ((zb (Lad FU x0 x1 x2 x3 x4 x5 x6 x7 x8 x9 A B C D E F G I J K L M N O P Q R T U V W X Y x33 x34 x35 x36 x37 x38 x39 x40)).2.2.2.2.2.2.2.2.1), I4 ((zb (Lad FU x0 x1 x2 x3 x4 x5 x6 x7 x8 x9 A B C D E F G I J K L M N O P Q R T U V W X Y x33 x34 x35 x36 x37 x38 x39 x40)).2.2.2.2.2.2.2.2.2.1), I4 ((zb (Lad FU x0 x1 x2 x3 x4 x5 x6 x7 x8 x9 A B C D E F G I J K L M N O P Q R T U V W X Y x33 x34 x35 x36 x37 x38 x39 x40)).2.2.2.2.2.2.2.2.2.2.1), .bool ((zb (Lad FU x0 x1 x2 x3 x4 x5 x6 x7 x8 x9 A B C D E F G I J K L M N O P Q R T U V W X Y x33 x34 x35 x36 x37 x38 x39 x40)).2.2.2.2.2.2.2.2.2.2.2.1), .bool ((zb (Lad FU x0 x1 x2 x3 x4 x5 x6 x7 x8 x9 A B C D E F G I J K L M N O P Q R T U V W X Y x33 x34 x35 x36 x37 x38 x39 x40)).2.2.2.2.2.2.2.2.2.2.2.2.1)])], h := [.row 30 PKy ((zb (Lad FU x0 x1 x2 x3 x4 x5 x6 x7 x8 x9 A B C D E F G I J K L M N O P Q R T U V W X Y x33 x34 x35 x36 x37 x38 x39 x40)).2.2.2.2.2.2.2.2.2.2.2.2.2 : List PKt)], n0 := 0, w := true }), (ok (za (Lad FU x0 x1 x2 x3 x4 x5 x6 x7 x8 x9 A B C D E F G I J K L M N O P Q R T U V W X Y x33 x34 x35 x36 x37 x38 x39 x40)), (.exit 0), { sl := [(1, .v (.sc (I4 x0))), (2, .l 2 0), (4, .l 4 0), (5, .l 5 0), (10, .v (.sc (.g 0))), (11, .v (.sc (.g 1)))], lo := [(2, [I4 (x1), I4 (x2), I4 (x3), I4 (x4), I4 (x5), .d 51 (.list 55 QDy) (x6), I4 ((val (za (Lad FU x0 x1 x2 x3 x4 x5 x6 x7 x8 x9 A B C D E F G I J K L M N O P Q R T U V W X Y x33 x34 x35 x36 x37 x38 x39 x40))).1), I4 ((val (za (Lad FU x0 x1 x2 x3 x4 x5 x6 x7 x8 x9 A B C D E F G I J K L M N O P Q R T U V W X Y x33 x34 x35 x36 x37 x38 x39 x40))).2.1), I4 (x9), I4 (A), I4 (B), I4 (C), I4 (D), I4 (E), .int .u64 (F)]), (4, [I4 (G), I4 (I), I4 (J), I4 (K), I4 (L), .g 2, I4 (M), I4 (N), I4 (O), I4 (P), I4 (Q), I4 (R), I4 (T), I4 (U), .int .u64 (V)]), (5, [I4 (W), I4 (X), I4 (Y), I4 (x33), I4 (x34), I4 (x35), .bool (x36), .bool (x37)])], h := [.row 55 QDy ((val (za (Lad FU x0 x1 x2 x3 x4 x5 x6 x7 x8 x9 A B C D E F G I J K L M N O P Q R T U V W X Y x33 x34 x35 x36 x37 x38 x39 x40))).2.2.1 : List (PKt × Int)), .row 30 PKy ((val (za (Lad FU x0 x1 x2 x3 x4 x5 x6 x7 x8 x9 A B C D E F G I J K L M N O P Q R T U V W X Y x33 x34 x35 x36 x37 x38 x39 x40))).2.2.2 : List PKt), .row 51 (.list 55 QDy) (x40)], n0 := 0, w := false })]
theorem wLad : zG Try.prog dOk base o45 t45 ((15, 0), sLad) := by
 refine ⟨.loop (zh Try.prog (tn0 15) 15 0), 0, by kernel_rfl, ?_⟩
 intro S alts e S' h10 h2
 have h1 : sLad S = some alts := h10
 clear h10
 unfold sLad at h1
 replace h1 := yN h1; obtain ⟨_, _, _, rfl, h1⟩ := h1
 replace h1 := xp h1; obtain ⟨_, _, rfl, h1⟩ := h1
 replace h1 := zd h1; obtain ⟨_, _, rfl, h1⟩ := h1
 replace h1 := dLq h1; obtain ⟨rfl, h1⟩ := h1
 replace h1 := zd h1; obtain ⟨_, _, rfl, h1⟩ := h1
 replace h1 := dLq h1; obtain ⟨rfl, h1⟩ := h1
 replace h1 := zd h1; obtain ⟨_, _, rfl, h1⟩ := h1
 replace h1 := dLq h1; obtain ⟨rfl, h1⟩ := h1
 replace h1 := yf h1; obtain ⟨_, _, rfl, h1⟩ := h1
 replace h1 := dGq h1; obtain ⟨rfl, h1⟩ := h1
 replace h1 := yf h1; obtain ⟨_, _, rfl, h1⟩ := h1
 replace h1 := dGq h1; obtain ⟨rfl, h1⟩ := h1
 replace h1 := dEq h1; obtain ⟨rfl, h1⟩ := h1
 replace h1 := zQ h1; obtain ⟨_, _, rfl, h1⟩ := h1
 replace h1 := dJ5 h1; obtain ⟨_, _, _, _, _, _, rfl, h1⟩ := h1
 replace h1 := dCq h1; obtain ⟨_, _, rfl, h1⟩ := h1
 replace h1 := dDq h1; obtain ⟨_, rfl, h1⟩ := h1
 replace h1 := dJ9 h1; obtain ⟨_, _, _, _, _, _, _, _, _, _, rfl, h1⟩ := h1
 replace h1 := dEq h1; obtain ⟨rfl, h1⟩ := h1
 replace h1 := zQ h1; obtain ⟨_, _, rfl, h1⟩ := h1
 replace h1 := dJ5 h1; obtain ⟨_, _, _, _, _, _, rfl, h1⟩ := h1
 replace h1 := dCq h1; obtain ⟨_, _, rfl, h1⟩ := h1
 replace h1 := dGq h1; obtain ⟨rfl, h1⟩ := h1
 replace h1 := dJ9 h1; obtain ⟨_, _, _, _, _, _, _, _, _, _, rfl, h1⟩ := h1
 replace h1 := dEq h1; obtain ⟨rfl, h1⟩ := h1
 replace h1 := zQ h1; obtain ⟨_, _, rfl, h1⟩ := h1
 replace h1 := dJ6 h1; obtain ⟨_, _, _, _, _, _, _, rfl, h1⟩ := h1
 replace h1 := dCq h1; obtain ⟨_, _, rfl, h1⟩ := h1
 replace h1 := zr h1; obtain ⟨_, rfl, h1⟩ := h1
 replace h1 := dCq h1; obtain ⟨_, _, rfl, h1⟩ := h1
 replace h1 := zr h1; obtain ⟨_, rfl, h1⟩ := h1
 replace h1 := dEq h1; obtain ⟨rfl, h1⟩ := h1
 replace h1 := dEq h1; obtain ⟨rfl, h1⟩ := h1
 replace h1 := yE h1; obtain ⟨_, _, rfl, h1⟩ := h1
 replace h1 := yE h1; obtain ⟨_, _, rfl, h1⟩ := h1
 replace h1 := yE h1; obtain ⟨_, _, rfl, h1⟩ := h1
 replace h1 := dEq h1; obtain ⟨rfl, h1⟩ := h1
 cases h1
 rcases yq h2 with ⟨hc0, rfl, rfl⟩ | h2
 · exact ⟨FU + 40, (zD rfl).trans (lLad FU 40 FU _ _ _ _ _ _ _ _ _ _ _ _ _ _ _ _ _ _ _ _ _ _ _ _ _ _ _ _ _ _ _ _ _ _ _ _ _ _ _ _ _ _ (yO hc0))⟩
 obtain ⟨hc1, rfl, rfl⟩ := zH h2
 exact ⟨FU + 40, (zD rfl).trans (lLad FU 40 FU _ _ _ _ _ _ _ _ _ _ _ _ _ _ _ _ _ _ _ _ _ _ _ _ _ _ _ _ _ _ _ _ _ _ _ _ _ _ _ _ _ _ (yp (zk hc1)))⟩
noncomputable def o46 : OrcT := o45
noncomputable def t46 : TellT := ((15, 0), sLad) :: t45
noncomputable abbrev tn46 : FuncId → TAn := zj base o46 t46
theorem ok46 : TnOk Try.prog tn46 (mkA base) dOk := by
 have h0 : TnOk Try.prog (tn45) (mkA base) dOk := ok45
 have h1 := zK h0 h0 (p := ((15, 0), sLad)) wLad
 exact h1
end Go.Proofs.Ythbinbcgjhnijaa
