/- What some functions and loops come to: printed and checked. Written by a program of ours. -/
import Derived.Test.YthbinbcgjhnijaaG2
set_option linter.all false
set_option linter.constructorNameAsVariable false
set_option linter.unnecessarySimpa false
set_option linter.unusedSimpArgs false
set_option linter.unusedVariables false
set_option maxRecDepth 1000000
set_option linter.unusedVariables false
set_option maxHeartbeats 4000000
namespace Go.Proofs.Ythbinbcgjhnijaa
open Go Go.AM Go.TM Go.Proofs
noncomputable def v21 (x0 x1 x2 : Int) : Option (Int × Int × Int × Int × Int × (List (List (PKt × Int))) × Int × Int × Int × Int × Int × Int × Int × Int × Int) := (some ((val (v29 (IntKind.wrap IntKind.i64 x0) (IntKind.wrap IntKind.i64 ((1 : Int) + IntKind.wrap IntKind.i64 x1)) (IntKind.wrap IntKind.i64 ((1 : Int) + Int.tmod (IntKind.wrap IntKind.i64 x2) (20 : Int))))).1, IntKind.wrap IntKind.i64 x0, IntKind.wrap IntKind.i64 ((1 : Int) + IntKind.wrap IntKind.i64 x1), (val (v29 (IntKind.wrap IntKind.i64 x0) (IntKind.wrap IntKind.i64 ((1 : Int) + IntKind.wrap IntKind.i64 x1)) (IntKind.wrap IntKind.i64 ((1 : Int) + Int.tmod (IntKind.wrap IntKind.i64 x2) (20 : Int))))).2.1, IntKind.wrap IntKind.i64 ((1 : Int) + Int.tmod (IntKind.wrap IntKind.i64 x2) (20 : Int)), (val (v29 (IntKind.wrap IntKind.i64 x0) (IntKind.wrap IntKind.i64 ((1 : Int) + IntKind.wrap IntKind.i64 x1)) (IntKind.wrap IntKind.i64 ((1 : Int) + Int.tmod (IntKind.wrap IntKind.i64 x2) (20 : Int))))).2.2.1, (val (v29 (IntKind.wrap IntKind.i64 x0) (IntKind.wrap IntKind.i64 ((1 : Int) + IntKind.wrap IntKind.i64 x1)) (IntKind.wrap IntKind.i64 ((1 : Int) + Int.tmod (IntKind.wrap IntKind.i64 x2) (20 : Int))))).2.2.2.1, (val (v29 (IntKind.wrap IntKind.i64 x0) (IntKind.wrap IntKind.i64 ((1 : Int) + IntKind.wrap IntKind.i64 x1)) (IntKind.wrap IntKind.i64 ((1 : Int) + Int.tmod (IntKind.wrap IntKind.i64 x2) (20 : Int))))).2.2.2.2.1, (val (v29 (IntKind.wrap IntKind.i64 x0) (IntKind.wrap IntKind.i64 ((1 : Int) + IntKind.wrap IntKind.i64 x1)) (IntKind.wrap IntKind.i64 ((1 : Int) + Int.tmod (IntKind.wrap IntKind.i64 x2) (20 : Int))))).2.2.2.2.2.1, (val (v29 (IntKind.wrap IntKind.i64 x0) (IntKind.wrap IntKind.i64 ((1 : Int) + IntKind.wrap IntKind.i64 x1)) (IntKind.wrap IntKind.i64 ((1 : Int) + Int.tmod (IntKind.wrap IntKind.i64 x2) (20 : Int))))).2.2.2.2.2.2.1, (val (v29 (IntKind.wrap IntKind.i64 x0) (IntKind.wrap IntKind.i64 ((1 : Int) + IntKind.wrap IntKind.i64 x1)) (IntKind.wrap IntKind.i64 ((1 : Int) + Int.tmod (IntKind.wrap IntKind.i64 x2) (20 : Int))))).2.2.2.2.2.2.2.1, (val (v29 (IntKind.wrap IntKind.i64 x0) (IntKind.wrap IntKind.i64 ((1 : Int) + IntKind.wrap IntKind.i64 x1)) (IntKind.wrap IntKind.i64 ((1 : Int) + Int.tmod (IntKind.wrap IntKind.i64 x2) (20 : Int))))).2.2.2.2.2.2.2.2.1, (val (v29 (IntKind.wrap IntKind.i64 x0) (IntKind.wrap IntKind.i64 ((1 : Int) + IntKind.wrap IntKind.i64 x1)) (IntKind.wrap IntKind.i64 ((1 : Int) + Int.tmod (IntKind.wrap IntKind.i64 x2) (20 : Int))))).2.2.2.2.2.2.2.2.2.1, (val (v29 (IntKind.wrap IntKind.i64 x0) (IntKind.wrap IntKind.i64 ((1 : Int) + IntKind.wrap IntKind.i64 x1)) (IntKind.wrap IntKind.i64 ((1 : Int) + Int.tmod (IntKind.wrap IntKind.i64 x2) (20 : Int))))).2.2.2.2.2.2.2.2.2.2.1, (val (v29 (IntKind.wrap IntKind.i64 x0) (IntKind.wrap IntKind.i64 ((1 : Int) + IntKind.wrap IntKind.i64 x1)) (IntKind.wrap IntKind.i64 ((1 : Int) + Int.tmod (IntKind.wrap IntKind.i64 x2) (20 : Int))))).2.2.2.2.2.2.2.2.2.2.2))
theorem ev21 (x0 x1 x2 : Int) : fnBody Try.prog (mkTn base o32 t32 21) (TM.evF Try.prog (mkTn base o32 t32) dOk 40) dOk 40 21 [.sc (.int .u16 (x0)), .sc (.int .u16 (x1)), .sc (.int .u8 (x2))] [] = (v21 x0 x1 x2).bind fun r => some ([.agg [I4 (r.1), I4 (r.2.1), I4 (r.2.2.1), I4 (r.2.2.2.1), I4 (r.2.2.2.2.1), .d 51 (.list 55 QDy) (r.2.2.2.2.2.1 : List (List (PKt × Int))), I4 (r.2.2.2.2.2.2.1), I4 (r.2.2.2.2.2.2.2.1), I4 (r.2.2.2.2.2.2.2.2.1), I4 (r.2.2.2.2.2.2.2.2.2.1), I4 (r.2.2.2.2.2.2.2.2.2.2.1), I4 (r.2.2.2.2.2.2.2.2.2.2.2.1), I4 (r.2.2.2.2.2.2.2.2.2.2.2.2.1), I4 (r.2.2.2.2.2.2.2.2.2.2.2.2.2.1), .int .u64 (r.2.2.2.2.2.2.2.2.2.2.2.2.2.2)]], []) := by
 refine Eq.trans (b := (some ([.agg [I4 (val (v29 (IntKind.wrap IntKind.i64 x0) (IntKind.wrap IntKind.i64 ((1 : Int) + IntKind.wrap IntKind.i64 x1)) (IntKind.wrap IntKind.i64 ((1 : Int) + Int.tmod (IntKind.wrap IntKind.i64 x2) (20 : Int))))).1, I4 (IntKind.wrap IntKind.i64 x0), I4 (IntKind.wrap IntKind.i64 ((1 : Int) + IntKind.wrap IntKind.i64 x1)), I4 (val (v29 (IntKind.wrap IntKind.i64 x0) (IntKind.wrap IntKind.i64 ((1 : Int) + IntKind.wrap IntKind.i64 x1)) (IntKind.wrap IntKind.i64 ((1 : Int) + Int.tmod (IntKind.wrap IntKind.i64 x2) (20 : Int))))).2.1, I4 (IntKind.wrap IntKind.i64 ((1 : Int) + Int.tmod (IntKind.wrap IntKind.i64 x2) (20 : Int))), .d 51 (.list 55 QDy) ((val (v29 (IntKind.wrap IntKind.i64 x0) (IntKind.wrap IntKind.i64 ((1 : Int) + IntKind.wrap IntKind.i64 x1)) (IntKind.wrap IntKind.i64 ((1 : Int) + Int.tmod (IntKind.wrap IntKind.i64 x2) (20 : Int))))).2.2.1 : List (List (PKt × Int))), I4 (val (v29 (IntKind.wrap IntKind.i64 x0) (IntKind.wrap IntKind.i64 ((1 : Int) + IntKind.wrap IntKind.i64 x1)) (IntKind.wrap IntKind.i64 ((1 : Int) + Int.tmod (IntKind.wrap IntKind.i64 x2) (20 : Int))))).2.2.2.1, I4 (val (v29 (IntKind.wrap IntKind.i64 x0) (IntKind.wrap IntKind.i64 ((1 : Int) + IntKind.wrap IntKind.i64 x1)) (IntKind.wrap IntKind.i64 ((1 : Int) + Int.tmod (IntKind.wrap IntKind.i64 x2) (20 : Int))))).2.2.2.2.1, I4 (val (v29 (IntKind.wrap IntKind.i64 x0) (IntKind.wrap IntKind.i64 ((1 : Int) + IntKind.wrap IntKind.i64 x1)) (IntKind.wrap IntKind.i64 ((1 : Int) + Int.tmod (IntKind.wrap IntKind.i64 x2) (20 : Int))))).2.2.2.2.2.1, I4 (val (v29 (IntKind.wrap IntKind.i64 x0) (IntKind.wrap IntKind.i64 ((1 : Int) + IntKind.wrap IntKind.i64 x1)) (IntKind.wrap IntKind.i64 ((1 : Int) + Int.tmod (IntKind.wrap IntKind.i64 x2) (20 : Int))))).2.2.2.2.2.2.1, I4 (val (v29 (IntKind.wrap IntKind.i64 x0) (IntKind.wrap IntKind.i64 ((1 : Int) + IntKind.wrap IntKind.i64 x1)) (IntKind.wrap IntKind.i64 ((1 : Int) + Int.tmod (IntKind.wrap IntKind.i64 x2) (20 : Int))))).2.2.2.2.2.2.2.1, I4 (val (v29 (IntKind.wrap IntKind.i64 x0) (IntKind.wrap IntKind.i64 ((1 : Int) + IntKind.wrap IntKind.i64 x1)) (IntKind.wrap IntKind.i64 ((1 : Int) + Int.tmod (IntKind.wrap IntKind.i64 x2) (20 : Int))))).2.2.2.2.2.2.2.2.1, I4 (val (v29 (IntKind.wrap IntKind.i64 x0) (IntKind.wrap IntKind.i64 ((1 : Int) + IntKind.wrap IntKind.i64 x1)) (IntKind.wrap IntKind.i64 ((1 : Int) + Int.tmod (IntKind.wrap IntKind.i64 x2) (20 : Int))))).2.2.2.2.2.2.2.2.2.1, I4 (val (v29 (IntKind.wrap IntKind.i64 x0) (IntKind.wrap IntKind.i64 ((1 : Int) + IntKind.wrap IntKind.i64 x1)) (IntKind.wrap IntKind.i64 ((1 : Int) + Int.tmod (IntKind.wrap IntKind.i64 x2) (20 : Int))))).2.2.2.2.2.2.2.2.2.2.1, .int .u64 (val (v29 (IntKind.wrap IntKind.i64 x0) (IntKind.wrap IntKind.i64 ((1 : Int) + IntKind.wrap IntKind.i64 x1)) (IntKind.wrap IntKind.i64 ((1 : Int) + Int.tmod (IntKind.wrap IntKind.i64 x2) (20 : Int))))).2.2.2.2.2.2.2.2.2.2.2]], []))) (by kernel_rfl) ?_
 unfold v21
 rfl
noncomputable def sv21 : OrcS := fun al H => dC al fun y1 l2 => dS y1 fun y3 => dInt .u16 y3 fun x0 => dC l2 fun y4 l5 => dS y4 fun y6 => dInt .u16 y6 fun x1 => dC l5 fun y7 l8 => dS y7 fun y9 => dInt .u8 y9 fun x2 => dE l8 <| dE H <|  some [(ok (v21 x0 x1 x2), [.agg [I4 ((val (v21 x0 x1 x2)).1), I4 ((val (v21 x0 x1 x2)).2.1), I4 ((val (v21 x0 x1 x2)).2.2.1), I4 ((val (v21 x0 x1 x2)).2.2.2.1), I4 ((val (v21 x0 x1 x2)).2.2.2.2.1), .d 51 (.list 55 QDy) ((val (v21 x0 x1 x2)).2.2.2.2.2.1 : List (List (PKt × Int))), I4 ((val (v21 x0 x1 x2)).2.2.2.2.2.2.1), I4 ((val (v21 x0 x1 x2)).2.2.2.2.2.2.2.1), I4 ((val (v21 x0 x1 x2)).2.2.2.2.2.2.2.2.1), I4 ((val (v21 x0 x1 x2)).2.2.2.2.2.2.2.2.2.1), I4 ((val (v21 x0 x1 x2)).2.2.2.2.2.2.2.2.2.2.1), I4 ((val (v21 x0 x1 x2)).2.2.2.2.2.2.2.2.2.2.2.1), I4 ((val (v21 x0 x1 x2)).2.2.2.2.2.2.2.2.2.2.2.2.1), I4 ((val (v21 x0 x1 x2)).2.2.2.2.2.2.2.2.2.2.2.2.2.1), .int .u64 ((val (v21 x0 x1 x2)).2.2.2.2.2.2.2.2.2.2.2.2.2.2)]], [])]
theorem wv21 : NewOrc Try.prog dOk base o32 t32 (21, sv21) := by
 intro al H q hq0 rs H2 h2
 have hq : sv21 al H = some q := hq0
 clear hq0
 unfold sv21 at hq
 obtain ⟨_, _, rfl, g1⟩ := dC_some hq
 obtain ⟨_, rfl, g2⟩ := dS_some g1
 obtain ⟨_, rfl, g3⟩ := dInt_some g2
 obtain ⟨_, _, rfl, g4⟩ := dC_some g3
 obtain ⟨_, rfl, g5⟩ := dS_some g4
 obtain ⟨_, rfl, g6⟩ := dInt_some g5
 obtain ⟨_, _, rfl, g7⟩ := dC_some g6
 obtain ⟨_, rfl, g8⟩ := dS_some g7
 obtain ⟨_, rfl, g9⟩ := dInt_some g8
 obtain ⟨rfl, g10⟩ := dE_some g9
 obtain ⟨rfl, g11⟩ := dE_some g10
 cases g11
 obtain ⟨hc0, rfl, rfl⟩ := pickR_one h2
 exact ⟨41, (fn_eq (by kernel_rfl)).trans ((ev21 _ _ _).trans (bind_of (ok_val hc0)))⟩
noncomputable def o33 : OrcT := (21, sv21) :: o32
noncomputable def t33 : TellT := t32
noncomputable abbrev tn33 : FuncId → TAn := mkTn base o33 t33
theorem ok33 : TnOk Try.prog tn33 (mkA base) dOk := by
 have h0 : TnOk Try.prog (mkTn base o32 t32) (mkA base) dOk := ok32
 have h1 := tn_orc h0 h0 (p := (21, sv21)) wv21
 exact h1
noncomputable def v25 (x0 x1 x2 x3 x4 : Int) (x5 : (List (List (PKt × Int)))) (x6 x7 x8 x9 A B C D E F : Int) (G : Bool) (I : Int) (J : Bool) (K : Int) (L : Bool) (M N O P Q R : Int) (T : Bool) (U : Bool) (V W X Y x33 x34 : Int) (x35 : (List (List (PKt × Int)))) (x36 x37 x38 x39 x40 x41 x42 x43 x44 : Int) : Option Bool := (cond (!G) (some (!G)) (cond ((↑(List.length x5) : Int) != (1 : Int)) (some (!G)) (cond (decide (0 < (↑(List.length x5) : Int))) (cond ((↑(List.length (List.getD x5 (Int.toNat 0) [])) : Int) == 0) (cond (!L) (some (V == 0)) (some (false))) (cond (L) (cond (V == 0) (cond (decide (0 < (↑(List.length (List.getD x5 (Int.toNat 0) [])) : Int))) (some (M == (List.getD (List.getD x5 (Int.toNat 0) []) (Int.toNat 0) (PKz, (0 : Int))).1.1 && (N == (List.getD (List.getD x5 (Int.toNat 0) []) (Int.toNat 0) (PKz, (0 : Int))).1.2.1 && (O == (List.getD (List.getD x5 (Int.toNat 0) []) (Int.toNat 0) (PKz, (0 : Int))).1.2.2.1 && (P == (List.getD (List.getD x5 (Int.toNat 0) []) (Int.toNat 0) (PKz, (0 : Int))).1.2.2.2.1 && (Q == (List.getD (List.getD x5 (Int.toNat 0) []) (Int.toNat 0) (PKz, (0 : Int))).1.2.2.2.2.1 && (R == (List.getD (List.getD x5 (Int.toNat 0) []) (Int.toNat 0) (PKz, (0 : Int))).1.2.2.2.2.2.1 && (T == (List.getD (List.getD x5 (Int.toNat 0) []) (Int.toNat 0) (PKz, (0 : Int))).1.2.2.2.2.2.2.1 && (false == (List.getD (List.getD x5 (Int.toNat 0) []) (Int.toNat 0) (PKz, (0 : Int))).1.2.2.2.2.2.2.2 && true))))))))) none) (some (false))) (some (false)))) none)))
theorem ev25 (x0 x1 x2 x3 x4 : Int) (x5 : (List (List (PKt × Int)))) (x6 x7 x8 x9 A B C D E F : Int) (G : Bool) (I : Int) (J : Bool) (K : Int) (L : Bool) (M N O P Q R : Int) (T : Bool) (U : Bool) (V W X Y x33 x34 : Int) (x35 : (List (List (PKt × Int)))) (x36 x37 x38 x39 x40 x41 x42 x43 x44 : Int) : fnBody Try.prog (mkTn base o33 t33 25) (TM.evF Try.prog (mkTn base o33 t33) dOk 40) dOk 40 25 [.agg [I4 (x0), I4 (x1), I4 (x2), I4 (x3), I4 (x4), .d 51 (.list 55 QDy) (x5), I4 (x6), I4 (x7), I4 (x8), I4 (x9), I4 (A), I4 (B), I4 (C), I4 (D), .int .u64 (E)], .agg [.int .u16 (F), .bool (G), .int .u8 (I), .bool (J)], .sc (I4 (K)), .sc (.bool (L)), .agg [I4 (M), I4 (N), I4 (O), I4 (P), I4 (Q), I4 (R), .bool (T), .bool (U)], .sc (I4 (V)), .agg [I4 (W), I4 (X), I4 (Y), I4 (x33), I4 (x34), .d 51 (.list 55 QDy) (x35), I4 (x36), I4 (x37), I4 (x38), I4 (x39), I4 (x40), I4 (x41), I4 (x42), I4 (x43), .int .u64 (x44)]] [] = (v25 x0 x1 x2 x3 x4 x5 x6 x7 x8 x9 A B C D E F G I J K L M N O P Q R T U V W X Y x33 x34 x35 x36 x37 x38 x39 x40 x41 x42 x43 x44).bind fun r => some ([.sc (.bool (r))], []) := by
 refine Eq.trans (b := (cond (!G) (some ([.sc (.bool (!G))], [])) (cond ((↑(List.length x5) : Int) != (1 : Int)) (some ([.sc (.bool (!G))], [])) (cond (decide (0 < (↑(List.length x5) : Int))) (cond ((↑(List.length (List.getD x5 (Int.toNat 0) [])) : Int) == 0) (cond (!L) (some ([.sc (.bool (V == 0))], [])) (some ([.sc (.bool (false))], []))) (cond (L) (cond (V == 0) (cond (decide (0 < (↑(List.length x5) : Int))) (cond (decide (0 < (↑(List.length (List.getD x5 (Int.toNat 0) [])) : Int))) (some ([.sc (.bool (M == (List.getD (List.getD x5 (Int.toNat 0) []) (Int.toNat 0) (PKz, (0 : Int))).1.1 && (N == (List.getD (List.getD x5 (Int.toNat 0) []) (Int.toNat 0) (PKz, (0 : Int))).1.2.1 && (O == (List.getD (List.getD x5 (Int.toNat 0) []) (Int.toNat 0) (PKz, (0 : Int))).1.2.2.1 && (P == (List.getD (List.getD x5 (Int.toNat 0) []) (Int.toNat 0) (PKz, (0 : Int))).1.2.2.2.1 && (Q == (List.getD (List.getD x5 (Int.toNat 0) []) (Int.toNat 0) (PKz, (0 : Int))).1.2.2.2.2.1 && (R == (List.getD (List.getD x5 (Int.toNat 0) []) (Int.toNat 0) (PKz, (0 : Int))).1.2.2.2.2.2.1 && (T == (List.getD (List.getD x5 (Int.toNat 0) []) (Int.toNat 0) (PKz, (0 : Int))).1.2.2.2.2.2.2.1 && (false == (List.getD (List.getD x5 (Int.toNat 0) []) (Int.toNat 0) (PKz, (0 : Int))).1.2.2.2.2.2.2.2 && true)))))))))], [])) none) none) (some ([.sc (.bool (false))], []))) (some ([.sc (.bool (false))], [])))) none)))) (by kernel_rfl) ?_
 unfold v25
 cases (!G) with
 | true =>
  rfl
 | false =>
  cases ((↑(List.length x5) : Int) != (1 : Int)) with
  | true =>
   rfl
  | false =>
   cases (decide (0 < (↑(List.length x5) : Int))) with
   | true =>
    cases ((↑(List.length (List.getD x5 (Int.toNat 0) [])) : Int) == 0) with
    | true =>
     cases (!L) with
     | true =>
      rfl
     | false =>
      rfl
    | false =>
     cases L with
     | true =>
      cases (V == 0) with
      | true =>
       cases (decide (0 < (↑(List.length (List.getD x5 (Int.toNat 0) [])) : Int))) with
       | true =>
        rfl
       | false =>
        rfl
      | false =>
       rfl
     | false =>
      rfl
   | false =>
    rfl
noncomputable def sv25 : OrcS := fun al H => dC al fun y1 l2 => dA y1 fun y3 => dCI .i64 y3 fun x0 l4 => dCI .i64 l4 fun x1 l5 => dCI .i64 l5 fun x2 l6 => dCI .i64 l6 fun x3 l7 => dCI .i64 l7 fun x4 l8 => dC l8 fun y9 l10 => dD 51 (.list 55 QDy) y9 fun x5 => dCI .i64 l10 fun x6 l11 => dCI .i64 l11 fun x7 l12 => dCI .i64 l12 fun x8 l13 => dCI .i64 l13 fun x9 l14 => dCI .i64 l14 fun A l15 => dCI .i64 l15 fun B l16 => dCI .i64 l16 fun C l17 => dCI .i64 l17 fun D l18 => dCI .u64 l18 fun E l19 => dE l19 <| dC l2 fun y20 l21 => dA y20 fun y22 => dCI .u16 y22 fun F l23 => dC l23 fun y24 l25 => dBool y24 fun G => dCI .u8 l25 fun I l26 => dC l26 fun y27 l28 => dBool y27 fun J => dE l28 <| dC l21 fun y29 l30 => dS y29 fun y31 => dInt .i64 y31 fun K => dC l30 fun y32 l33 => dS y32 fun y34 => dBool y34 fun L => dC l33 fun y35 l36 => dA y35 fun y37 => dCI .i64 y37 fun M l38 => dCI .i64 l38 fun N l39 => dCI .i64 l39 fun O l40 => dCI .i64 l40 fun P l41 => dCI .i64 l41 fun Q l42 => dCI .i64 l42 fun R l43 => dC l43 fun y44 l45 => dBool y44 fun T => dC l45 fun y46 l47 => dBool y46 fun U => dE l47 <| dC l36 fun y48 l49 => dS y48 fun y50 => dInt .i64 y50 fun V => dC l49 fun y51 l52 => dA y51 fun y53 => dCI .i64 y53 fun W l54 => dCI .i64 l54 fun X l55 => dCI .i64 l55 fun Y l56 => dCI .i64 l56 fun x33 l57 => dCI .i64 l57 fun x34 l58 => dC l58 fun y59 l60 => dD 51 (.list 55 QDy) y59 fun x35 => dCI .i64 l60 fun x36 l61 => dCI .i64 l61 fun x37 l62 => dCI .i64 l62 fun x38 l63 => dCI .i64 l63 fun x39 l64 => dCI .i64 l64 fun x40 l65 => dCI .i64 l65 fun x41 l66 => dCI .i64 l66 fun x42 l67 => dCI .i64 l67 fun x43 l68 => dCI .u64 l68 fun x44 l69 => dE l69 <| dE l52 <| dE H <|  some [(ok (v25 x0 x1 x2 x3 x4 x5 x6 x7 x8 x9 A B C D E F G I J K L M N O P Q R T U V W X Y x33 x34 x35 x36 x37 x38 x39 x40 x41 x42 x43 x44), [.sc (.bool ((val (v25 x0 x1 x2 x3 x4 x5 x6 x7 x8 x9 A B C D E F G I J K L M N O P Q R T U V W X Y x33 x34 x35 x36 x37 x38 x39 x40 x41 x42 x43 x44))))], [])]
theorem wv25 : NewOrc Try.prog dOk base o33 t33 (25, sv25) := by
 intro al H q hq0 rs H2 h2
 have hq : sv25 al H = some q := hq0
 clear hq0
 unfold sv25 at hq
 replace hq := dC_some hq; obtain ⟨_, _, rfl, hq⟩ := hq
 replace hq := dA_some hq; obtain ⟨_, rfl, hq⟩ := hq
 replace hq := dJ5 hq; obtain ⟨_, _, _, _, _, _, rfl, hq⟩ := hq
 replace hq := dC_some hq; obtain ⟨_, _, rfl, hq⟩ := hq
 replace hq := dD_some hq; obtain ⟨_, rfl, hq⟩ := hq
 replace hq := dJ9 hq; obtain ⟨_, _, _, _, _, _, _, _, _, _, rfl, hq⟩ := hq
 replace hq := dE_some hq; obtain ⟨rfl, hq⟩ := hq
 replace hq := dC_some hq; obtain ⟨_, _, rfl, hq⟩ := hq
 replace hq := dA_some hq; obtain ⟨_, rfl, hq⟩ := hq
 replace hq := dCI_some hq; obtain ⟨_, _, rfl, hq⟩ := hq
 replace hq := dC_some hq; obtain ⟨_, _, rfl, hq⟩ := hq
 replace hq := dBool_some hq; obtain ⟨_, rfl, hq⟩ := hq
 replace hq := dCI_some hq; obtain ⟨_, _, rfl, hq⟩ := hq
 replace hq := dC_some hq; obtain ⟨_, _, rfl, hq⟩ := hq
 replace hq := dBool_some hq; obtain ⟨_, rfl, hq⟩ := hq
 replace hq := dE_some hq; obtain ⟨rfl, hq⟩ := hq
 replace hq := dC_some hq; obtain ⟨_, _, rfl, hq⟩ := hq
 replace hq := dS_some hq; obtain ⟨_, rfl, hq⟩ := hq
 replace hq := dInt_some hq; obtain ⟨_, rfl, hq⟩ := hq
 replace hq := dC_some hq; obtain ⟨_, _, rfl, hq⟩ := hq
 replace hq := dS_some hq; obtain ⟨_, rfl, hq⟩ := hq
 replace hq := dBool_some hq; obtain ⟨_, rfl, hq⟩ := hq
 replace hq := dC_some hq; obtain ⟨_, _, rfl, hq⟩ := hq
 replace hq := dA_some hq; obtain ⟨_, rfl, hq⟩ := hq
 replace hq := dJ6 hq; obtain ⟨_, _, _, _, _, _, _, rfl, hq⟩ := hq
 replace hq := dC_some hq; obtain ⟨_, _, rfl, hq⟩ := hq
 replace hq := dBool_some hq; obtain ⟨_, rfl, hq⟩ := hq
 replace hq := dC_some hq; obtain ⟨_, _, rfl, hq⟩ := hq
 replace hq := dBool_some hq; obtain ⟨_, rfl, hq⟩ := hq
 replace hq := dE_some hq; obtain ⟨rfl, hq⟩ := hq
 replace hq := dC_some hq; obtain ⟨_, _, rfl, hq⟩ := hq
 replace hq := dS_some hq; obtain ⟨_, rfl, hq⟩ := hq
 replace hq := dInt_some hq; obtain ⟨_, rfl, hq⟩ := hq
 replace hq := dC_some hq; obtain ⟨_, _, rfl, hq⟩ := hq
 replace hq := dA_some hq; obtain ⟨_, rfl, hq⟩ := hq
 replace hq := dJ5 hq; obtain ⟨_, _, _, _, _, _, rfl, hq⟩ := hq
 replace hq := dC_some hq; obtain ⟨_, _, rfl, hq⟩ := hq
 replace hq := dD_some hq; obtain ⟨_, rfl, hq⟩ := hq
 replace hq := dJ9 hq; obtain ⟨_, _, _, _, _, _, _, _, _, _, rfl, hq⟩ := hq
 replace hq := dE_some hq; obtain ⟨rfl, hq⟩ := hq
 replace hq := dE_some hq; obtain ⟨rfl, hq⟩ := hq
 replace hq := dE_some hq; obtain ⟨rfl, hq⟩ := hq
 cases hq
 obtain ⟨hc0, rfl, rfl⟩ := pickR_one h2
 exact ⟨41, (fn_eq (by kernel_rfl)).trans ((ev25 _ _ _ _ _ _ _ _ _ _ _ _ _ _ _ _ _ _ _ _ _ _ _ _ _ _ _ _ _ _ _ _ _ _ _ _ _ _ _ _ _ _ _ _ _).trans (bind_of (ok_val hc0)))⟩
noncomputable def o34 : OrcT := (25, sv25) :: o33
noncomputable def t34 : TellT := t33
noncomputable abbrev tn34 : FuncId → TAn := mkTn base o34 t34
theorem ok34 : TnOk Try.prog tn34 (mkA base) dOk := by
 have h0 : TnOk Try.prog (mkTn base o33 t33) (mkA base) dOk := ok33
 have h1 := tn_orc h0 h0 (p := (25, sv25)) wv25
 exact h1
end Go.Proofs.Ythbinbcgjhnijaa
