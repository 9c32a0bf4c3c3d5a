/- What some functions and loops come to: printed and checked. Written by a program of ours. -/
import Derived.Test.YthbinbcgjhnijaaG3
set_option linter.all false
set_option linter.constructorNameAsVariable false
set_option linter.unnecessarySimpa false
set_option linter.unusedSimpArgs false
set_option linter.unusedVariables false
set_option maxRecDepth 1000000
set_option linter.unusedVariables false
set_option maxHeartbeats 4000000
namespace Go.Proofs.Ythbinbcgjhnijaa
open Go Go.AM Go.TM Go.Proofs
noncomputable def v9 (x0 x1 x2 x3 x4 : Int) (x5 : (List (List (PKt × Int)))) (x6 x7 x8 x9 A B C D E F G I J K L : Int) (M : Bool) (N : Bool) (O : Int) : Option Bool := (cond (ok (v11 x0 x1 x2 x3 x4 x5 x6 x7 x8 x9 A B C D E)) (cond (!val (v11 x0 x1 x2 x3 x4 x5 x6 x7 x8 x9 A B C D E)) (some (true)) (cond (ok (v19 x0 x1 x2 x3 x4 x5 x6 x7 x8 x9 A B C D E)) (cond (!val (v19 x0 x1 x2 x3 x4 x5 x6 x7 x8 x9 A B C D E)) (some (true)) (cond (ok (v27 F G I J K L M N)) (cond (!val (v27 F G I J K L M N)) (some (true)) (cond (ok (v26 O)) (cond (!val (v26 O)) (some (true)) (cond (ok (L9_36_0 O (val v10) x0 x1 x2 x3 x4 x5 x6 x7 x8 x9 A B C D E F G I J K L M N)) (some (val (L9_36_0 O (val v10) x0 x1 x2 x3 x4 x5 x6 x7 x8 x9 A B C D E F G I J K L M N))) none)) none)) none)) none)) none)
theorem ev9 (x0 x1 x2 x3 x4 : Int) (x5 : (List (List (PKt × Int)))) (x6 x7 x8 x9 A B C D E F G I J K L : Int) (M : Bool) (N : Bool) (O : Int) : fnBody Try.prog (mkTn base o50 t50 9) (TM.evF Try.prog (mkTn base o50 t50) dOk 40) dOk 40 9 [.agg [I4 (x0), I4 (x1), I4 (x2), I4 (x3), I4 (x4), .d 51 (.list 55 QDy) (x5), I4 (x6), I4 (x7), I4 (x8), I4 (x9), I4 (A), I4 (B), I4 (C), I4 (D), .int .u64 (E)], .agg [I4 (F), I4 (G), I4 (I), I4 (J), I4 (K), I4 (L), .bool (M), .bool (N)], .sc (I4 (O))] [] = (v9 x0 x1 x2 x3 x4 x5 x6 x7 x8 x9 A B C D E F G I J K L M N O).bind fun r => some ([.sc (.bool (r))], []) := by
 refine Eq.trans (b := (cond (ok (v11 x0 x1 x2 x3 x4 x5 x6 x7 x8 x9 A B C D E)) (cond (!val (v11 x0 x1 x2 x3 x4 x5 x6 x7 x8 x9 A B C D E)) (some ([.sc (.bool (true))], [])) (cond (ok (v19 x0 x1 x2 x3 x4 x5 x6 x7 x8 x9 A B C D E)) (cond (!val (v19 x0 x1 x2 x3 x4 x5 x6 x7 x8 x9 A B C D E)) (some ([.sc (.bool (true))], [])) (cond (ok (v27 F G I J K L M N)) (cond (!val (v27 F G I J K L M N)) (some ([.sc (.bool (true))], [])) (cond (ok (v26 O)) (cond (!val (v26 O)) (some ([.sc (.bool (true))], [])) (cond (ok (L9_36_0 O (val v10) x0 x1 x2 x3 x4 x5 x6 x7 x8 x9 A B C D E F G I J K L M N)) (some ([.sc (.bool (val (L9_36_0 O (val v10) x0 x1 x2 x3 x4 x5 x6 x7 x8 x9 A B C D E F G I J K L M N)))], [])) none)) none)) none)) none)) none)) (by kernel_rfl) ?_
 unfold v9
 refine cond_bd ?_ ?_
 refine cond_bd ?_ ?_
 rfl
 refine cond_bd ?_ ?_
 refine cond_bd ?_ ?_
 rfl
 refine cond_bd ?_ ?_
 refine cond_bd ?_ ?_
 rfl
 refine cond_bd ?_ ?_
 refine cond_bd ?_ ?_
 rfl
 refine cond_bd ?_ ?_
 rfl
 rfl
 rfl
 rfl
 rfl
 rfl
noncomputable def sv9 : OrcS := fun al H => dC al fun y1 l2 => dA y1 fun y3 => dCI .i64 y3 fun x0 l4 => dCI .i64 l4 fun x1 l5 => dCI .i64 l5 fun x2 l6 => dCI .i64 l6 fun x3 l7 => dCI .i64 l7 fun x4 l8 => dC l8 fun y9 l10 => dD 51 (.list 55 QDy) y9 fun x5 => dCI .i64 l10 fun x6 l11 => dCI .i64 l11 fun x7 l12 => dCI .i64 l12 fun x8 l13 => dCI .i64 l13 fun x9 l14 => dCI .i64 l14 fun A l15 => dCI .i64 l15 fun B l16 => dCI .i64 l16 fun C l17 => dCI .i64 l17 fun D l18 => dCI .u64 l18 fun E l19 => dE l19 <| dC l2 fun y20 l21 => dA y20 fun y22 => dCI .i64 y22 fun F l23 => dCI .i64 l23 fun G l24 => dCI .i64 l24 fun I l25 => dCI .i64 l25 fun J l26 => dCI .i64 l26 fun K l27 => dCI .i64 l27 fun L l28 => dC l28 fun y29 l30 => dBool y29 fun M => dC l30 fun y31 l32 => dBool y31 fun N => dE l32 <| dC l21 fun y33 l34 => dS y33 fun y35 => dInt .i64 y35 fun O => dE l34 <| dE H <|  some [(ok (v9 x0 x1 x2 x3 x4 x5 x6 x7 x8 x9 A B C D E F G I J K L M N O), [.sc (.bool ((val (v9 x0 x1 x2 x3 x4 x5 x6 x7 x8 x9 A B C D E F G I J K L M N O))))], [])]
theorem wv9 : NewOrc Try.prog dOk base o50 t50 (9, sv9) := by
 intro al H q hq0 rs H2 h2
 have hq : sv9 al H = some q := hq0
 clear hq0
 unfold sv9 at hq
 replace hq := dC_some hq; obtain ⟨_, _, rfl, hq⟩ := hq
 replace hq := dA_some hq; obtain ⟨_, rfl, hq⟩ := hq
 replace hq := dCI_some hq; obtain ⟨_, _, rfl, hq⟩ := hq
 replace hq := dCI_some hq; obtain ⟨_, _, rfl, hq⟩ := hq
 replace hq := dCI_some hq; obtain ⟨_, _, rfl, hq⟩ := hq
 replace hq := dCI_some hq; obtain ⟨_, _, rfl, hq⟩ := hq
 replace hq := dCI_some hq; obtain ⟨_, _, rfl, hq⟩ := hq
 replace hq := dC_some hq; obtain ⟨_, _, rfl, hq⟩ := hq
 replace hq := dD_some hq; obtain ⟨_, rfl, hq⟩ := hq
 replace hq := dCI_some hq; obtain ⟨_, _, rfl, hq⟩ := hq
 replace hq := dCI_some hq; obtain ⟨_, _, rfl, hq⟩ := hq
 replace hq := dCI_some hq; obtain ⟨_, _, rfl, hq⟩ := hq
 replace hq := dCI_some hq; obtain ⟨_, _, rfl, hq⟩ := hq
 replace hq := dCI_some hq; obtain ⟨_, _, rfl, hq⟩ := hq
 replace hq := dCI_some hq; obtain ⟨_, _, rfl, hq⟩ := hq
 replace hq := dCI_some hq; obtain ⟨_, _, rfl, hq⟩ := hq
 replace hq := dCI_some hq; obtain ⟨_, _, rfl, hq⟩ := hq
 replace hq := dCI_some hq; obtain ⟨_, _, rfl, hq⟩ := hq
 replace hq := dE_some hq; obtain ⟨rfl, hq⟩ := hq
 replace hq := dC_some hq; obtain ⟨_, _, rfl, hq⟩ := hq
 replace hq := dA_some hq; obtain ⟨_, rfl, hq⟩ := hq
 replace hq := dCI_some hq; obtain ⟨_, _, rfl, hq⟩ := hq
 replace hq := dCI_some hq; obtain ⟨_, _, rfl, hq⟩ := hq
 replace hq := dCI_some hq; obtain ⟨_, _, rfl, hq⟩ := hq
 replace hq := dCI_some hq; obtain ⟨_, _, rfl, hq⟩ := hq
 replace hq := dCI_some hq; obtain ⟨_, _, rfl, hq⟩ := hq
 replace hq := dCI_some hq; obtain ⟨_, _, rfl, hq⟩ := hq
 replace hq := dC_some hq; obtain ⟨_, _, rfl, hq⟩ := hq
 replace hq := dBool_some hq; obtain ⟨_, rfl, hq⟩ := hq
 replace hq := dC_some hq; obtain ⟨_, _, rfl, hq⟩ := hq
 replace hq := dBool_some hq; obtain ⟨_, rfl, hq⟩ := hq
 replace hq := dE_some hq; obtain ⟨rfl, hq⟩ := hq
 replace hq := dC_some hq; obtain ⟨_, _, rfl, hq⟩ := hq
 replace hq := dS_some hq; obtain ⟨_, rfl, hq⟩ := hq
 replace hq := dInt_some hq; obtain ⟨_, rfl, hq⟩ := hq
 replace hq := dE_some hq; obtain ⟨rfl, hq⟩ := hq
 replace hq := dE_some hq; obtain ⟨rfl, hq⟩ := hq
 cases hq
 obtain ⟨hc0, rfl, rfl⟩ := pickR_one h2
 exact ⟨41, (fn_eq (by kernel_rfl)).trans ((ev9 _ _ _ _ _ _ _ _ _ _ _ _ _ _ _ _ _ _ _ _ _ _ _ _).trans (bind_of (ok_val hc0)))⟩
noncomputable def o51 : OrcT := (9, sv9) :: o50
noncomputable def t51 : TellT := t50
noncomputable abbrev tn51 : FuncId → TAn := mkTn base o51 t51
theorem ok51 : TnOk Try.prog tn51 (mkA base) dOk := by
 have h0 : TnOk Try.prog (mkTn base o50 t50) (mkA base) dOk := ok50
 have h1 := tn_orc h0 h0 (p := (9, sv9)) wv9
 exact h1
end Go.Proofs.Ythbinbcgjhnijaa
