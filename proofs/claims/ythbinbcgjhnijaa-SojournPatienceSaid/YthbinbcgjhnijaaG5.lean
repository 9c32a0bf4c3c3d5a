/- What some functions and loops come to: printed and checked. Written by a program of ours. -/
import Derived.Test.YthbinbcgjhnijaaG4
set_option linter.all false
set_option linter.constructorNameAsVariable false
set_option linter.unnecessarySimpa false
set_option linter.unusedSimpArgs false
set_option linter.unusedVariables false
set_option maxRecDepth 1000000
set_option linter.unusedVariables false
set_option maxHeartbeats 4000000
namespace Go.Proofs.Ythbinbcgjhnijaa
open Go Go.AM Go.TM Go.Proofs
noncomputable def L6_44_0 (x0 x1 x2 : Int) (x3 : (List (Int × (Bool × (Int × Bool))))) (x4 : Bool) (x5 x6 : Int) : Option Bool := (cond (ok (v20 (val (v21 x0 x1 x2)).1 (val (v21 x0 x1 x2)).2.1 (val (v21 x0 x1 x2)).2.2.1 (val (v21 x0 x1 x2)).2.2.2.1 (val (v21 x0 x1 x2)).2.2.2.2.1 (val (v21 x0 x1 x2)).2.2.2.2.2.1 (val (v21 x0 x1 x2)).2.2.2.2.2.2.1 (val (v21 x0 x1 x2)).2.2.2.2.2.2.2.1 (val (v21 x0 x1 x2)).2.2.2.2.2.2.2.2.1 (val (v21 x0 x1 x2)).2.2.2.2.2.2.2.2.2.1 (val (v21 x0 x1 x2)).2.2.2.2.2.2.2.2.2.2.1 (val (v21 x0 x1 x2)).2.2.2.2.2.2.2.2.2.2.2.1 (val (v21 x0 x1 x2)).2.2.2.2.2.2.2.2.2.2.2.2.1 (val (v21 x0 x1 x2)).2.2.2.2.2.2.2.2.2.2.2.2.2.1 (val (v21 x0 x1 x2)).2.2.2.2.2.2.2.2.2.2.2.2.2.2 x3 x5 x6)) (cond (x4) (some (val (v20 (val (v21 x0 x1 x2)).1 (val (v21 x0 x1 x2)).2.1 (val (v21 x0 x1 x2)).2.2.1 (val (v21 x0 x1 x2)).2.2.2.1 (val (v21 x0 x1 x2)).2.2.2.2.1 (val (v21 x0 x1 x2)).2.2.2.2.2.1 (val (v21 x0 x1 x2)).2.2.2.2.2.2.1 (val (v21 x0 x1 x2)).2.2.2.2.2.2.2.1 (val (v21 x0 x1 x2)).2.2.2.2.2.2.2.2.1 (val (v21 x0 x1 x2)).2.2.2.2.2.2.2.2.2.1 (val (v21 x0 x1 x2)).2.2.2.2.2.2.2.2.2.2.1 (val (v21 x0 x1 x2)).2.2.2.2.2.2.2.2.2.2.2.1 (val (v21 x0 x1 x2)).2.2.2.2.2.2.2.2.2.2.2.2.1 (val (v21 x0 x1 x2)).2.2.2.2.2.2.2.2.2.2.2.2.2.1 (val (v21 x0 x1 x2)).2.2.2.2.2.2.2.2.2.2.2.2.2.2 x3 x5 x6)).2.2.2.2.2.2.2.2.2.2.2.2.2.2.2.2.2.2.1) (some (false))) none)
noncomputable def xL6_44_0 (x0 x1 x2 : Int) (x3 : (List (Int × (Bool × (Int × Bool))))) (x4 : Bool) (x5 x6 : Int) : Bool → Ex × CS := fun r => (.ret, { sl := [(8, .v (.sc (.bool (r))))], lo := [], h := [], n0 := 0, w := true })
theorem bL6_44_0 (k : Nat) (cX : Ex → CS → Option (Ex × CS)) (x0 x1 x2 : Int) (x3 : (List (Int × (Bool × (Int × Bool))))) (x4 : Bool) (x5 x6 : Int) : pieceBody Try.prog (mkTn base o37 t37 6) (TM.evF Try.prog (mkTn base o37 t37) dOk (k + 40)) dOk (k + 40) (codeAt Try.prog (tn0 6) 6 44) 0 44 { sl := [(0, .v (.sc (.int .u16 (x0)))), (1, .v (.sc (.int .u16 (x1)))), (2, .v (.sc (.int .u8 (x2)))), (3, .v (.sc (.d 50 (.pair (.int .u16) (.pair .bool (.pair (.int .u8) .bool))) (x3)))), (9, .v (.sc (.bool (x4)))), (10, .v (.sc (.ptr 0 0))), (11, .v (.sc (.ptr 1 0)))], lo := [], h := [.box 3 [I4 (x5)], .box 3 [I4 (x6)]], n0 := 0, w := false } cX = (cond (ok (v20 (val (v21 x0 x1 x2)).1 (val (v21 x0 x1 x2)).2.1 (val (v21 x0 x1 x2)).2.2.1 (val (v21 x0 x1 x2)).2.2.2.1 (val (v21 x0 x1 x2)).2.2.2.2.1 (val (v21 x0 x1 x2)).2.2.2.2.2.1 (val (v21 x0 x1 x2)).2.2.2.2.2.2.1 (val (v21 x0 x1 x2)).2.2.2.2.2.2.2.1 (val (v21 x0 x1 x2)).2.2.2.2.2.2.2.2.1 (val (v21 x0 x1 x2)).2.2.2.2.2.2.2.2.2.1 (val (v21 x0 x1 x2)).2.2.2.2.2.2.2.2.2.2.1 (val (v21 x0 x1 x2)).2.2.2.2.2.2.2.2.2.2.2.1 (val (v21 x0 x1 x2)).2.2.2.2.2.2.2.2.2.2.2.2.1 (val (v21 x0 x1 x2)).2.2.2.2.2.2.2.2.2.2.2.2.2.1 (val (v21 x0 x1 x2)).2.2.2.2.2.2.2.2.2.2.2.2.2.2 x3 x5 x6)) (cond (x4) (cX .ret { sl := [(8, .v (.sc (.bool (val (v20 (val (v21 x0 x1 x2)).1 (val (v21 x0 x1 x2)).2.1 (val (v21 x0 x1 x2)).2.2.1 (val (v21 x0 x1 x2)).2.2.2.1 (val (v21 x0 x1 x2)).2.2.2.2.1 (val (v21 x0 x1 x2)).2.2.2.2.2.1 (val (v21 x0 x1 x2)).2.2.2.2.2.2.1 (val (v21 x0 x1 x2)).2.2.2.2.2.2.2.1 (val (v21 x0 x1 x2)).2.2.2.2.2.2.2.2.1 (val (v21 x0 x1 x2)).2.2.2.2.2.2.2.2.2.1 (val (v21 x0 x1 x2)).2.2.2.2.2.2.2.2.2.2.1 (val (v21 x0 x1 x2)).2.2.2.2.2.2.2.2.2.2.2.1 (val (v21 x0 x1 x2)).2.2.2.2.2.2.2.2.2.2.2.2.1 (val (v21 x0 x1 x2)).2.2.2.2.2.2.2.2.2.2.2.2.2.1 (val (v21 x0 x1 x2)).2.2.2.2.2.2.2.2.2.2.2.2.2.2 x3 x5 x6)).2.2.2.2.2.2.2.2.2.2.2.2.2.2.2.2.2.2.1)))], lo := [], h := [], n0 := 0, w := true }) (cX .ret { sl := [(8, .v (.sc (.bool (false))))], lo := [], h := [], n0 := 0, w := true })) none) := by kernel_rfl
theorem lL6_44_0 (k : Nat) (x0 x1 x2 : Int) (x3 : (List (Int × (Bool × (Int × Bool))))) (x4 : Bool) (x5 x6 : Int) (r : Bool) : L6_44_0 x0 x1 x2 x3 x4 x5 x6 = some r → pieceBody Try.prog (mkTn base o37 t37 6) (TM.evF Try.prog (mkTn base o37 t37) dOk (k + 40)) dOk (k + 40) (codeAt Try.prog (tn0 6) 6 44) 0 44 { sl := [(0, .v (.sc (.int .u16 (x0)))), (1, .v (.sc (.int .u16 (x1)))), (2, .v (.sc (.int .u8 (x2)))), (3, .v (.sc (.d 50 (.pair (.int .u16) (.pair .bool (.pair (.int .u8) .bool))) (x3)))), (9, .v (.sc (.bool (x4)))), (10, .v (.sc (.ptr 0 0))), (11, .v (.sc (.ptr 1 0)))], lo := [], h := [.box 3 [I4 (x5)], .box 3 [I4 (x6)]], n0 := 0, w := false } (fun e s => some (e, s)) = some (xL6_44_0 x0 x1 x2 x3 x4 x5 x6 r) := by
 rw [bL6_44_0]
 unfold L6_44_0
 refine cond_go ?_ ?_
 refine cond_go ?_ ?_
 intro h; cases h; rfl
 intro h; cases h; rfl
 intro h; cases h
noncomputable def sL6_44_0 : TellS := fun S => dCS 0 S fun y1 y2 y3 => dSI 0 .u16 y1 fun x0 l4 => dSI 1 .u16 l4 fun x1 l5 => dSI 2 .u8 l5 fun x2 l6 => dSs 3 l6 fun y8 l7 => dD 50 (.pair (.int .u16) (.pair .bool (.pair (.int .u8) .bool))) y8 fun x3 => dSs 9 l7 fun y10 l9 => dBool y10 fun x4 => dSs 10 l9 fun y12 l11 => dPtr 0 0 y12 <| dSs 11 l11 fun y14 l13 => dPtr 1 0 y14 <| dE l13 <| dE y2 <| dHB 3 y3 fun y16 l15 => dCI .i64 y16 fun x5 l17 => dE l17 <| dHB 3 l15 fun y19 l18 => dCI .i64 y19 fun x6 l20 => dE l20 <| dE l18 <|  some [(ok (L6_44_0 x0 x1 x2 x3 x4 x5 x6), .ret, { sl := [(8, .v (.sc (.bool ((val (L6_44_0 x0 x1 x2 x3 x4 x5 x6))))))], lo := [], h := [], n0 := 0, w := true })]
theorem wL6_44_0 : NewTell Try.prog dOk base o37 t37 ((6, 44), sL6_44_0) := by
 refine ⟨(codeAt Try.prog (tn0 6) 6 44), 0, by kernel_rfl, ?_⟩
 intro S alts e S' h10 h2
 have h1 : sL6_44_0 S = some alts := h10
 clear h10
 unfold sL6_44_0 at h1
 replace h1 := dCS_some h1; obtain ⟨_, _, _, rfl, h1⟩ := h1
 replace h1 := dSI_some h1; obtain ⟨_, _, rfl, h1⟩ := h1
 replace h1 := dSI_some h1; obtain ⟨_, _, rfl, h1⟩ := h1
 replace h1 := dSI_some h1; obtain ⟨_, _, rfl, h1⟩ := h1
 replace h1 := dSs_some h1; obtain ⟨_, _, rfl, h1⟩ := h1
 replace h1 := dD_some h1; obtain ⟨_, rfl, h1⟩ := h1
 replace h1 := dSs_some h1; obtain ⟨_, _, rfl, h1⟩ := h1
 replace h1 := dBool_some h1; obtain ⟨_, rfl, h1⟩ := h1
 replace h1 := dSs_some h1; obtain ⟨_, _, rfl, h1⟩ := h1
 replace h1 := dPtr_some h1; obtain ⟨rfl, h1⟩ := h1
 replace h1 := dSs_some h1; obtain ⟨_, _, rfl, h1⟩ := h1
 replace h1 := dPtr_some h1; obtain ⟨rfl, h1⟩ := h1
 replace h1 := dE_some h1; obtain ⟨rfl, h1⟩ := h1
 replace h1 := dE_some h1; obtain ⟨rfl, h1⟩ := h1
 replace h1 := dHB_some h1; obtain ⟨_, _, rfl, h1⟩ := h1
 replace h1 := dCI_some h1; obtain ⟨_, _, rfl, h1⟩ := h1
 replace h1 := dE_some h1; obtain ⟨rfl, h1⟩ := h1
 replace h1 := dHB_some h1; obtain ⟨_, _, rfl, h1⟩ := h1
 replace h1 := dCI_some h1; obtain ⟨_, _, rfl, h1⟩ := h1
 replace h1 := dE_some h1; obtain ⟨rfl, h1⟩ := h1
 replace h1 := dE_some h1; obtain ⟨rfl, h1⟩ := h1
 cases h1
 obtain ⟨hc0, rfl, rfl⟩ := pick_one h2
 exact ⟨0 + 40, (evPiece_code rfl).trans (lL6_44_0 0 _ _ _ _ _ _ _ _ (ok_val hc0))⟩
noncomputable def o38 : OrcT := o37
noncomputable def t38 : TellT := ((6, 44), sL6_44_0) :: t37
noncomputable abbrev tn38 : FuncId → TAn := mkTn base o38 t38
theorem ok38 : TnOk Try.prog tn38 (mkA base) dOk := by
 have h0 : TnOk Try.prog (mkTn base o37 t37) (mkA base) dOk := ok37
 have h1 := tn_tell h0 h0 (p := ((6, 44), sL6_44_0)) wL6_44_0
 exact h1
noncomputable def v6 (x0 x1 x2 : Int) (x3 : (List (Int × (Bool × (Int × Bool))))) : Option Bool := (cond (decide ((↑(List.length x3) : Int) > (150 : Int))) (some (true)) (cond (ok (L6_44_0 x0 x1 x2 x3 (val v10) (-1 : Int) 0)) (some (val (L6_44_0 x0 x1 x2 x3 (val v10) (-1 : Int) 0))) none))
theorem ev6 (x0 x1 x2 : Int) (x3 : (List (Int × (Bool × (Int × Bool))))) : fnBody Try.prog (mkTn base o38 t38 6) (TM.evF Try.prog (mkTn base o38 t38) dOk 40) dOk 40 6 [.sc (.int .u16 (x0)), .sc (.int .u16 (x1)), .sc (.int .u8 (x2)), .sc (.d 50 (.pair (.int .u16) (.pair .bool (.pair (.int .u8) .bool))) (x3))] [] = (v6 x0 x1 x2 x3).bind fun r => some ([.sc (.bool (r))], []) := by
 refine Eq.trans (b := (cond (decide ((↑(List.length x3) : Int) > (150 : Int))) (some ([.sc (.bool (true))], [])) (cond (ok (L6_44_0 x0 x1 x2 x3 (val v10) (-1 : Int) 0)) (some ([.sc (.bool (val (L6_44_0 x0 x1 x2 x3 (val v10) (-1 : Int) 0)))], [])) none))) (by kernel_rfl) ?_
 unfold v6
 refine cond_bd ?_ ?_
 rfl
 refine cond_bd ?_ ?_
 rfl
 rfl
noncomputable def sv6 : OrcS := fun al H => dC al fun y1 l2 => dS y1 fun y3 => dInt .u16 y3 fun x0 => dC l2 fun y4 l5 => dS y4 fun y6 => dInt .u16 y6 fun x1 => dC l5 fun y7 l8 => dS y7 fun y9 => dInt .u8 y9 fun x2 => dC l8 fun y10 l11 => dS y10 fun y12 => dD 50 (.pair (.int .u16) (.pair .bool (.pair (.int .u8) .bool))) y12 fun x3 => dE l11 <| dE H <|  some [(ok (v6 x0 x1 x2 x3), [.sc (.bool ((val (v6 x0 x1 x2 x3))))], [])]
theorem wv6 : NewOrc Try.prog dOk base o38 t38 (6, sv6) := by
 intro al H q hq0 rs H2 h2
 have hq : sv6 al H = some q := hq0
 clear hq0
 unfold sv6 at hq
 obtain ⟨_, _, rfl, g1⟩ := dC_some hq
 obtain ⟨_, rfl, g2⟩ := dS_some g1
 obtain ⟨_, rfl, g3⟩ := dInt_some g2
 obtain ⟨_, _, rfl, g4⟩ := dC_some g3
 obtain ⟨_, rfl, g5⟩ := dS_some g4
 obtain ⟨_, rfl, g6⟩ := dInt_some g5
 obtain ⟨_, _, rfl, g7⟩ := dC_some g6
 obtain ⟨_, rfl, g8⟩ := dS_some g7
 obtain ⟨_, rfl, g9⟩ := dInt_some g8
 obtain ⟨_, _, rfl, g10⟩ := dC_some g9
 obtain ⟨_, rfl, g11⟩ := dS_some g10
 obtain ⟨_, rfl, g12⟩ := dD_some g11
 obtain ⟨rfl, g13⟩ := dE_some g12
 obtain ⟨rfl, g14⟩ := dE_some g13
 cases g14
 obtain ⟨hc0, rfl, rfl⟩ := pickR_one h2
 exact ⟨41, (fn_eq (by kernel_rfl)).trans ((ev6 _ _ _ _).trans (bind_of (ok_val hc0)))⟩
noncomputable def o39 : OrcT := (6, sv6) :: o38
noncomputable def t39 : TellT := t38
noncomputable abbrev tn39 : FuncId → TAn := mkTn base o39 t39
theorem ok39 : TnOk Try.prog tn39 (mkA base) dOk := by
 have h0 : TnOk Try.prog (mkTn base o38 t38) (mkA base) dOk := ok38
 have h1 := tn_orc h0 h0 (p := (6, sv6)) wv6
 exact h1
end Go.Proofs.Ythbinbcgjhnijaa
