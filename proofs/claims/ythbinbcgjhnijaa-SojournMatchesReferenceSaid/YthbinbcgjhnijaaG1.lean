/- What some functions and loops come to: printed and checked. Written by a program of ours. -/
import Derived.Test.YthbinbcgjhnijaaG0
set_option linter.all false
set_option maxRecDepth 1000000
set_option maxHeartbeats 4000000
namespace Go.Proofs.Ythbinbcgjhnijaa
open Go Go.AM Go.TM Go.Proofs
noncomputable def Lac (x0 x1 x2 x3 x4 x5 : Int) (x6 : (List (List (PKt × Int)))) (x7 x8 x9 A B C D E F G I J K L M : Int) (N : Bool) (O : Bool) (P Q R T U V W X Y x33 x34 x35 x36 x37 : Int) (x38 : (List (List (PKt × Int)))) : Option ((Int × Int × Int × Int × Int × Int × Int × Int × Int × Int × Int × Int × Int × Int × Int) ⊕ ((Int × (List PKt) × (List (PKt × Int))) ⊕ (Int × (List (PKt × Int))))) := (cond (isL (v32 x1 x2 x3 x4 x5 x6 x7 x8 x9 A B C D E F x0)) (cond (zb (v32 x1 x2 x3 x4 x5 x6 x7 x8 x9 A B C D E F x0) != 0) (some (.inl (zb (v32 x1 x2 x3 x4 x5 x6 x7 x8 x9 A B C D E F x0), 0, 0, 0, 0, 0, 0, 0, 0, 0, 0, 0, 0, 0, 0))) none) (cond (ok (za (v32 x1 x2 x3 x4 x5 x6 x7 x8 x9 A B C D E F x0))) (cond ((val (za (v32 x1 x2 x3 x4 x5 x6 x7 x8 x9 A B C D E F x0))).1 != 0) (some (.inl ((val (za (v32 x1 x2 x3 x4 x5 x6 x7 x8 x9 A B C D E F x0))).1, 0, 0, 0, 0, 0, 0, 0, 0, 0, 0, 0, 0, 0, 0))) (cond (isL (Laf x0 G I J K L M N O P Q R T U V W X Y x33 x34 x35 x36 x37 x1 x2 x3 x4 x5 x7 x8 x9 A B C D x0 F x0 (val (za (v32 x1 x2 x3 x4 x5 x6 x7 x8 x9 A B C D E F x0))).2 x38)) (some (.inr (.inl ((zb (Laf x0 G I J K L M N O P Q R T U V W X Y x33 x34 x35 x36 x37 x1 x2 x3 x4 x5 x7 x8 x9 A B C D x0 F x0 (val (za (v32 x1 x2 x3 x4 x5 x6 x7 x8 x9 A B C D E F x0))).2 x38)).1, (zb (Laf x0 G I J K L M N O P Q R T U V W X Y x33 x34 x35 x36 x37 x1 x2 x3 x4 x5 x7 x8 x9 A B C D x0 F x0 (val (za (v32 x1 x2 x3 x4 x5 x6 x7 x8 x9 A B C D E F x0))).2 x38)).2, (val (za (v32 x1 x2 x3 x4 x5 x6 x7 x8 x9 A B C D E F x0))).2)))) (cond (ok (za (Laf x0 G I J K L M N O P Q R T U V W X Y x33 x34 x35 x36 x37 x1 x2 x3 x4 x5 x7 x8 x9 A B C D x0 F x0 (val (za (v32 x1 x2 x3 x4 x5 x6 x7 x8 x9 A B C D E F x0))).2 x38))) (some (.inr (.inr ((val (za (Laf x0 G I J K L M N O P Q R T U V W X Y x33 x34 x35 x36 x37 x1 x2 x3 x4 x5 x7 x8 x9 A B C D x0 F x0 (val (za (v32 x1 x2 x3 x4 x5 x6 x7 x8 x9 A B C D E F x0))).2 x38))).1, (val (za (Laf x0 G I J K L M N O P Q R T U V W X Y x33 x34 x35 x36 x37 x1 x2 x3 x4 x5 x7 x8 x9 A B C D x0 F x0 (val (za (v32 x1 x2 x3 x4 x5 x6 x7 x8 x9 A B C D E F x0))).2 x38))).2)))) none))) none))
noncomputable def xLac (x0 x1 x2 x3 x4 x5 : Int) (x6 : (List (List (PKt × Int)))) (x7 x8 x9 A B C D E F G I J K L M : Int) (N : Bool) (O : Bool) (P Q R T U V W X Y x33 x34 x35 x36 x37 : Int) (x38 : (List (List (PKt × Int)))) : ((Int × Int × Int × Int × Int × Int × Int × Int × Int × Int × Int × Int × Int × Int × Int) ⊕ ((Int × (List PKt) × (List (PKt × Int))) ⊕ (Int × (List (PKt × Int))))) → Ex × CS := fun r => match r with | .inl a0 => (.ret, { sl := [(6, .l 6 0), (7, .v (.sc (.nil))), (8, .v (.sc (I4 (a0.1))))], lo := [(6, [I4 (a0.2.1), I4 (a0.2.2.1), I4 (a0.2.2.2.1), I4 (a0.2.2.2.2.1), I4 (a0.2.2.2.2.2.1), .nil, I4 (a0.2.2.2.2.2.2.1), I4 (a0.2.2.2.2.2.2.2.1), I4 (a0.2.2.2.2.2.2.2.2.1), I4 (a0.2.2.2.2.2.2.2.2.2.1), I4 (a0.2.2.2.2.2.2.2.2.2.2.1), I4 (a0.2.2.2.2.2.2.2.2.2.2.2.1), I4 (a0.2.2.2.2.2.2.2.2.2.2.2.2.1), I4 (a0.2.2.2.2.2.2.2.2.2.2.2.2.2.1), .int .u64 (a0.2.2.2.2.2.2.2.2.2.2.2.2.2.2)])], h := [], n0 := 0, w := true }) | .inr b0 => match b0 with | .inl a1 => (.ret, { sl := [(6, .l 6 0), (7, .v (.sc (.g 0))), (8, .v (.sc (I4 (a1.1))))], lo := [(6, [I4 (x1), I4 (x2), I4 (x3), I4 (x4), I4 (x5), .sc 1 (0) (1), I4 (x7), I4 (x8), I4 (x9), I4 (A), I4 (B), I4 (C), I4 (D), I4 (x0), .int .u64 (F)])], h := [.row 30 PKy (a1.2.1 : List PKt), .crow 51 [.g 2], .row 55 QDy (a1.2.2 : List (PKt × Int))], n0 := 0, w := true }) | .inr b1 => (.ret, { sl := [(6, .l 6 0), (7, .v (.sc (.nil))), (8, .v (.sc (I4 (b1.1))))], lo := [(6, [I4 (x1), I4 (x2), I4 (x3), I4 (x4), I4 (x5), .sc 0 (0) (1), I4 (x7), I4 (x8), I4 (x9), I4 (A), I4 (B), I4 (C), I4 (D), I4 (x0), .int .u64 (F)])], h := [.crow 51 [.g 1], .row 55 QDy (b1.2 : List (PKt × Int))], n0 := 0, w := true })
theorem bLac (k : Nat) (cX : Ex → CS → Option (Ex × CS)) (x0 x1 x2 x3 x4 x5 : Int) (x6 : (List (List (PKt × Int)))) (x7 x8 x9 A B C D E F G I J K L M : Int) (N : Bool) (O : Bool) (P Q R T U V W X Y x33 x34 x35 x36 x37 : Int) (x38 : (List (List (PKt × Int)))) : zo Try.prog (tn19 12) (TM.evF Try.prog (tn19) dOk (k + 40)) dOk (k + 40) (zh Try.prog (tn0 12) 12 28) 0 28 { sl := [(2, .v (.sc (I4 x0))), (3, .l 3 0), (4, .l 4 0), (6, .l 6 0)], lo := [(3, [I4 (x1), I4 (x2), I4 (x3), I4 (x4), I4 (x5), .d 51 (.list 55 QDy) (x6), I4 (x7), I4 (x8), I4 (x9), I4 (A), I4 (B), I4 (C), I4 (D), I4 (E), .int .u64 (F)]), (4, [I4 (G), I4 (I), I4 (J), I4 (K), I4 (L), I4 (M), .bool (N), .bool (O)]), (6, [I4 (P), I4 (Q), I4 (R), I4 (T), I4 (U), .g 0, I4 (V), I4 (W), I4 (X), I4 (Y), I4 (x33), I4 (x34), I4 (x35), I4 (x36), .int .u64 (x37)])], h := [.row 51 (.list 55 QDy) (x38)], n0 := 0, w := false } cX = (cond (isL (v32 x1 x2 x3 x4 x5 x6 x7 x8 x9 A B C D E F x0)) (cond (zb (v32 x1 x2 x3 x4 x5 x6 x7 x8 x9 A B C D E F x0) != 0) (cX .ret { sl := [(6, .l 6 0), (7, .v (.sc (.nil))), (8, .v (.sc (I4 (zb (v32 x1 x2 x3 x4 x5 x6 x7 x8 x9 A B C D E F x0)))))], lo := [(6, [I4 (0), I4 (0), I4 (0), I4 (0), I4 (0), .nil, I4 (0), I4 (0), I4 (0), I4 (0), I4 (0), I4 (0), I4 (0), I4 (0), .int .u64 (0)])], h := [], n0 := 0, w := true }) none) (cond (ok (za (v32 x1 x2 x3 x4 x5 x6 x7 x8 x9 A B C D E F x0))) (cond ((val (za (v32 x1 x2 x3 x4 x5 x6 x7 x8 x9 A B C D E F x0))).1 != 0) (cX .ret { sl := [(6, .l 6 0), (7, .v (.sc (.nil))), (8, .v (.sc (I4 (val (za (v32 x1 x2 x3 x4 x5 x6 x7 x8 x9 A B C D E F x0))).1)))], lo := [(6, [I4 (0), I4 (0), I4 (0), I4 (0), I4 (0), .nil, I4 (0), I4 (0), I4 (0), I4 (0), I4 (0), I4 (0), I4 (0), I4 (0), .int .u64 (0)])], h := [], n0 := 0, w := true }) (cond (isL (Laf x0 G I J K L M N O P Q R T U V W X Y x33 x34 x35 x36 x37 x1 x2 x3 x4 x5 x7 x8 x9 A B C D x0 F x0 (val (za (v32 x1 x2 x3 x4 x5 x6 x7 x8 x9 A B C D E F x0))).2 x38)) (cX .ret { sl := [(6, .l 6 0), (7, .v (.sc (.g 0))), (8, .v (.sc (I4 (zb (Laf x0 G I J K L M N O P Q R T U V W X Y x33 x34 x35 x36 x37 x1 x2 x3 x4 x5 x7 x8 x9 A B C D x0 F x0 (val (za (v32 x1 x2 x3 x4 x5 x6 x7 x8 x9 A B C D E F x0))).2 x38)).1)))], lo := [(6, [I4 (x1), I4 (x2), I4 (x3), I4 (x4), I4 (x5), .sc 1 (0) (1), I4 (x7), I4 (x8), I4 (x9), I4 (A), I4 (B), I4 (C), I4 (D), I4 (x0), .int .u64 (F)])], h := [.row 30 PKy ((zb (Laf x0 G I J K L M N O P Q R T U V W X Y x33 x34 x35 x36 x37 x1 x2 x3 x4 x5 x7 x8 x9 A B C D x0 F x0 (val (za (v32 x1 x2 x3 x4 x5 x6 x7 x8 x9 A B C D E F x0))).2 x38)).2 : List PKt), .crow 51 [.g 2], .row 55 QDy ((val (za (v32 x1 x2 x3 x4 x5 x6 x7 x8 x9 A B C D E F x0))).2 : List (PKt × Int))], n0 := 0, w := true }) (cond (ok (za (Laf x0 G I J K L M N O P Q R T U V W X Y x33 x34 x35 x36 x37 x1 x2 x3 x4 x5 x7 x8 x9 A B C D x0 F x0 (val (za (v32 x1 x2 x3 x4 x5 x6 x7 x8 x9 A B C D E F x0))).2 x38))) (cX .ret { sl := [(6, .l 6 0), (7, .v (.sc (.nil))), (8, .v (.sc (I4 (val (za (Laf x0 G I J K L M N O P Q R T U V W X Y x33 x34 x35 x36 x37 x1 x2 x3 x4 x5 x7 x8 x9 A B C D x0 F x0 (val (za (v32 x1 x2 x3 x4 x5 x6 x7 x8 x9 A B C D E F x0))).2 x38))).1)))], lo := [(6, [I4 (x1), I4 (x2), I4 (x3), I4 (x4), I4 (x5), .sc 0 (0) (1), I4 (x7), I4 (x8), I4 (x9), I4 (A), I4 (B), I4 (C), I4 (D), I4 (x0), .int .u64 (F)])], h := [.crow 51 [.g 1], .row 55 QDy ((val (za (Laf x0 G I J K L M N O P Q R T U V W X Y x33 x34 x35 x36 x37 x1 x2 x3 x4 x5 x7 x8 x9 A B C D x0 F x0 (val (za (v32 x1 x2 x3 x4 x5 x6 x7 x8 x9 A B C D E F x0))).2 x38))).2 : List (PKt × Int))], n0 := 0, w := true }) none))) none)) := by kernel_rfl
theorem lLac (k : Nat) (x0 x1 x2 x3 x4 x5 : Int) (x6 : (List (List (PKt × Int)))) (x7 x8 x9 A B C D E F G I J K L M : Int) (N : Bool) (O : Bool) (P Q R T U V W X Y x33 x34 x35 x36 x37 : Int) (x38 : (List (List (PKt × Int)))) (r : ((Int × Int × Int × Int × Int × Int × Int × Int × Int × Int × Int × Int × Int × Int × Int) ⊕ ((Int × (List PKt) × (List (PKt × Int))) ⊕ (Int × (List (PKt × Int)))))) : Lac x0 x1 x2 x3 x4 x5 x6 x7 x8 x9 A B C D E F G I J K L M N O P Q R T U V W X Y x33 x34 x35 x36 x37 x38 = some r → zo Try.prog (tn19 12) (TM.evF Try.prog (tn19) dOk (k + 40)) dOk (k + 40) (zh Try.prog (tn0 12) 12 28) 0 28 { sl := [(2, .v (.sc (I4 x0))), (3, .l 3 0), (4, .l 4 0), (6, .l 6 0)], lo := [(3, [I4 (x1), I4 (x2), I4 (x3), I4 (x4), I4 (x5), .d 51 (.list 55 QDy) (x6), I4 (x7), I4 (x8), I4 (x9), I4 (A), I4 (B), I4 (C), I4 (D), I4 (E), .int .u64 (F)]), (4, [I4 (G), I4 (I), I4 (J), I4 (K), I4 (L), I4 (M), .bool (N), .bool (O)]), (6, [I4 (P), I4 (Q), I4 (R), I4 (T), I4 (U), .g 0, I4 (V), I4 (W), I4 (X), I4 (Y), I4 (x33), I4 (x34), I4 (x35), I4 (x36), .int .u64 (x37)])], h := [.row 51 (.list 55 QDy) (x38)], n0 := 0, w := false } (fun e s => some (e, s)) = some (xLac x0 x1 x2 x3 x4 x5 x6 x7 x8 x9 A B C D E F G I J K L M N O P Q R T U V W X Y x33 x34 x35 x36 x37 x38 r) := by
 rw [bLac]
 unfold Lac
 refine ze ?_ ?_
 refine ze ?_ ?_
 intro h; cases h; rfl
 intro h; cases h
 refine ze ?_ ?_
 refine ze ?_ ?_
 intro h; cases h; rfl
 refine ze ?_ ?_
 intro h; cases h; rfl
 refine ze ?_ ?_
 intro h; cases h; rfl
 intro h; cases h
 intro h; cases h
noncomputable def sLac : TellS := fun S => dCS 0 S fun y1 y2 y3 => dSI 2 .i64 y1 fun x0 l4 => dSt 3 l4 fun y6 l5 => dL 3 0 y6 <| dSt 4 l5 fun y8 l7 => dL 4 0 y8 <| dSt 6 l7 fun y10 l9 => dL 6 0 y10 <| dE l9 <| dLo 3 y2 fun y11 l12 => dK y11 fun x1 l13 => dK l13 fun x2 l14 => dK l14 fun x3 l15 => dK l15 fun x4 l16 => dK l16 fun x5 l17 => dC l17 fun y18 l19 => dD 51 (.list 55 QDy) y18 fun x6 => dK l19 fun x7 l20 => dK l20 fun x8 l21 => dK l21 fun x9 l22 => dK l22 fun A l23 => dK l23 fun B l24 => dK l24 fun C l25 => dK l25 fun D l26 => dK l26 fun E l27 => dCI .u64 l27 fun F l28 => dE l28 <| dLo 4 l12 fun y29 l30 => dK y29 fun G l31 => dK l31 fun I l32 => dK l32 fun J l33 => dK l33 fun K l34 => dK l34 fun L l35 => dK l35 fun M l36 => dC l36 fun y37 l38 => zA y37 fun N => dC l38 fun y39 l40 => zA y39 fun O => dE l40 <| dLo 6 l30 fun y41 l42 => dK y41 fun P l43 => dK l43 fun Q l44 => dK l44 fun R l45 => dK l45 fun T l46 => dK l46 fun U l47 => dC l47 fun y48 l49 => dG 0 y48 <| dK l49 fun V l50 => dK l50 fun W l51 => dK l51 fun X l52 => dK l52 fun Y l53 => dK l53 fun x33 l54 => dK l54 fun x34 l55 => dK l55 fun x35 l56 => dK l56 fun x36 l57 => dCI .u64 l57 fun x37 l58 => dE l58 <| dE l42 <| dHR 51 (.list 55 QDy) y3 fun x38 l59 => dE l59 <|  some [(isL (Lac x0 x1 x2 x3 x4 x5 x6 x7 x8 x9 A B C D E F G I J K L M N O P Q R T U V W X Y x33 x34 x35 x36 x37 x38), .ret, { sl := [(6, .l 6 0), (7, .v (.sc (.nil))), (8, .v (.sc (I4 ((zb (Lac x0 x1 x2 x3 x4 x5 x6 x7 x8 x9 A B C D E F G I J K L M N O P Q R T U V W X Y x33 x34 x35 x36 x37 x38)).1))))], lo := [(6, [I4 ((zb (Lac x0 x1 x2 x3 x4 x5 x6 x7 x8 x9 A B C D E F G I J K L M N O P Q R T U V W X Y x33 x34 x35 x36 x37 x38)).2.1), I4 ((zb (Lac x0 x1 x2 x3 x4 x5 x6 x7 x8 x9 A B C D E F G I J K L M N O P Q R T U V W X Y x33 x34 x35 x36 x37 x38)).2.2.1), I4 ((zb (Lac x0 x1 x2 x3 x4 x5 x6 x7 x8 x9 A B C D E F G I J K L M N O P Q R T U V W X Y x33 x34 x35 x36 x37 x38)).2.2.2.1), I4 ((zb (Lac x0 x1 x2 x3 x4 x5 x6 x7 x8 x9 A B C D E F G I J K L M N O P Q R T U V W X Y x33 x34 x35 x36 x37 x38)).2.2.2.2.1), I4 ((zb (Lac x0 x1 x2 x3 x4 x5 x6 x7 x8 x9 A B C D E F G I J K L M N O P Q R T U V W X Y x33 x34 x35 x36 x37 x38)).2.2.2.2.2.1), .nil, I4 ((zb (Lac x0 x1 x2 x3 x4 x5 x6 x7 x8 x9 A B C D E F G I J K L M N O P Q R T U V W X Y x33 x34 x35 x36 x37 x38)).2.2.2.2.2.2.1), I4 ((zb (Lac x0 x1 x2 x3 x4 x5 x6 x7 x8 x9 A B C D E F G I J K L M N O P Q R T U V W X Y x33 x34 x35 x36 x37 x38)).2.2.2.2.2.2.2.1), I4 ((zb (Lac x0 x1 x2 x3 x4 x5 x6 x7 x8 x9 A B C D E F G I J K L M N O P Q R T U V W X Y x33 x34 x35 x36 x37 x38)).2.2.2.2.2.2.2.2.1), I4 ((zb (Lac x0 x1 x2 x3 x4 x5 x6 x7 x8 x9 A B C D E F G I J K L M N O P Q R T U V W X Y x33 x34 x35 x36 x37 x38)).2.2.2.2.2.2.2.2.2.1), I4 ((zb (Lac x0 x1 x2 x3 x4 x5 x6 x7 x8 x9 A B C D E F G I J K L M N O P Q R T U V W X Y x33 x34 x35 x36 x37 x38)).2.2.2.2.2.2.2.2.2.2.1), I4 ((zb (Lac x0 x1 x2 x3 x4 x5 x6 x7 x8 x9 A B C D E F G I J K L M N O P Q R T U V W X Y x33 x34 x35 x36 x37 x38)).2.2.2.2.2.2.2.2.2.2.2.1), I4 ((zb (Lac x0 x1 x2 x3 x4 x5 x6 x7 x8 x9 A B C D E F G I J K L M N O P Q R T U V W X Y x33 x34 x35 x36 x37 x38)).2.2.2.2.2.2.2.2.2.2.2.2.1), I4 ((zb (Lac x0 x1 x2 x3 x4 x5 x6 x7 x8 x9 A B C D E F G I J K L M N O P Q R T U V W X Y x33 x34 x35 x36 x37 x38)).2.2.2.2.2.2.2.2.2.2.2.2.2.1), .int .u64 ((zb (Lac x0 x1 x2 x3 x4 x5 x6 x7 x8 x9 A B C D E F G I J K L M N O P Q R T U V W X Y x33 x34 x35 x36 x37 x38)).2.2.2.2.2.2.2.2.2.2.2.2.2.2)])], h := [], n0 := 0, w := true }), (isL (za (Lac x0 x1 x2 x3 x4 x5 x6 x7 x8 x9 A B C D E F G I J K L M N O P Q R T U V W X Y x33 x34 x35 x36 x37 x38)), .ret, { sl := [(6, .l 6 0), (7, .v (.sc (.g 0))), (8, .v (.sc (I4 ((zb (za (Lac x0 x1 x2 x3 x4 x5 x6 x7 x8 x9 A B C D E F G I J K L M N O P Q R T U V W X Y x33 x34 x35 x36 x37 x38))).1))))], lo := [(6, [I4 (x1), I4 (x2), I4 (x3), I4 (x4), I4 (x5), .sc 1 (0) (1), I4 (x7), I4 (x8), I4 (x9), I4 (A), I4 (B), I4 (C), I4 (D), I4 (x0), .int .u64 (F)])], h := [.row 30 PKy ((zb (za (Lac x0 x1 x2 x3 x4 x5 x6 x7 x8 x9 A B C D E F G I J K L M N O P Q R T U V W X Y x33 x34 x35 x36 x37 x38))).2.1 : List PKt), .crow 51 [.g 2], .row 55 QDy ((zb (za (Lac x0 x1 x2 x3 x4 x5 x6 x7 x8 x9 A B C D E F G I J K L M N O P Q R T U V W X Y x33 x34 x35 x36 x37 x38))).2.2 : List (PKt × Int))], n0 := 0, w := true }), (ok (za (za (Lac x0 x1 x2 x3 x4 x5 x6 x7 x8 x9 A B C D E F G I J K L M N O P Q R T U V W X Y x33 x34 x35 x36 x37 x38))), .ret, { sl := [(6, .l 6 0), (7, .v (.sc (.nil))), (8, .v (.sc (I4 ((val (za (za (Lac x0 x1 x2 x3 x4 x5 x6 x7 x8 x9 A B C D E F G I J K L M N O P Q R T U V W X Y x33 x34 x35 x36 x37 x38)))).1))))], lo := [(6, [I4 (x1), I4 (x2), I4 (x3), I4 (x4), I4 (x5), .sc 0 (0) (1), I4 (x7), I4 (x8), I4 (x9), I4 (A), I4 (B), I4 (C), I4 (D), I4 (x0), .int .u64 (F)])], h := [.crow 51 [.g 1], .row 55 QDy ((val (za (za (Lac x0 x1 x2 x3 x4 x5 x6 x7 x8 x9 A B C D E F G I J K L M N O P Q R T U V W X Y x33 x34 x35 x36 x37 x38)))).2 : List (PKt × Int))], n0 := 0, w := true })]
theorem wLac : zG Try.prog dOk base o19 t19 ((12, 28), sLac) := by
 refine ⟨(zh Try.prog (tn0 12) 12 28), 0, by kernel_rfl, ?_⟩
 intro S alts e S' h10 h2
 have h1 : sLac S = some alts := h10
 clear h10
 unfold sLac at h1
 replace h1 := yN h1; obtain ⟨_, _, _, rfl, h1⟩ := h1
 replace h1 := xp h1; obtain ⟨_, _, rfl, h1⟩ := h1
 replace h1 := zd h1; obtain ⟨_, _, rfl, h1⟩ := h1
 replace h1 := dLq h1; obtain ⟨rfl, h1⟩ := h1
 replace h1 := zd h1; obtain ⟨_, _, rfl, h1⟩ := h1
 replace h1 := dLq h1; obtain ⟨rfl, h1⟩ := h1
 replace h1 := zd h1; obtain ⟨_, _, rfl, h1⟩ := h1
 replace h1 := dLq h1; obtain ⟨rfl, h1⟩ := h1
 replace h1 := dEq h1; obtain ⟨rfl, h1⟩ := h1
 replace h1 := zQ h1; obtain ⟨_, _, rfl, h1⟩ := h1
 replace h1 := dJ5 h1; obtain ⟨_, _, _, _, _, _, rfl, h1⟩ := h1
 replace h1 := dCq h1; obtain ⟨_, _, rfl, h1⟩ := h1
 replace h1 := dDq h1; obtain ⟨_, rfl, h1⟩ := h1
 replace h1 := dJ9 h1; obtain ⟨_, _, _, _, _, _, _, _, _, _, rfl, h1⟩ := h1
 replace h1 := dEq h1; obtain ⟨rfl, h1⟩ := h1
 replace h1 := zQ h1; obtain ⟨_, _, rfl, h1⟩ := h1
 replace h1 := dJ6 h1; obtain ⟨_, _, _, _, _, _, _, rfl, h1⟩ := h1
 replace h1 := dCq h1; obtain ⟨_, _, rfl, h1⟩ := h1
 replace h1 := zr h1; obtain ⟨_, rfl, h1⟩ := h1
 replace h1 := dCq h1; obtain ⟨_, _, rfl, h1⟩ := h1
 replace h1 := zr h1; obtain ⟨_, rfl, h1⟩ := h1
 replace h1 := dEq h1; obtain ⟨rfl, h1⟩ := h1
 replace h1 := zQ h1; obtain ⟨_, _, rfl, h1⟩ := h1
 replace h1 := dJ5 h1; obtain ⟨_, _, _, _, _, _, rfl, h1⟩ := h1
 replace h1 := dCq h1; obtain ⟨_, _, rfl, h1⟩ := h1
 replace h1 := dGq h1; obtain ⟨rfl, h1⟩ := h1
 replace h1 := dJ9 h1; obtain ⟨_, _, _, _, _, _, _, _, _, _, rfl, h1⟩ := h1
 replace h1 := dEq h1; obtain ⟨rfl, h1⟩ := h1
 replace h1 := dEq h1; obtain ⟨rfl, h1⟩ := h1
 replace h1 := yE h1; obtain ⟨_, _, rfl, h1⟩ := h1
 replace h1 := dEq h1; obtain ⟨rfl, h1⟩ := h1
 cases h1
 rcases yq h2 with ⟨hc0, rfl, rfl⟩ | h2
 · exact ⟨0 + 40, (zy rfl).trans (lLac 0 _ _ _ _ _ _ _ _ _ _ _ _ _ _ _ _ _ _ _ _ _ _ _ _ _ _ _ _ _ _ _ _ _ _ _ _ _ _ _ _ (yO hc0))⟩
 rcases yq h2 with ⟨hc1, rfl, rfl⟩ | h2
 · exact ⟨0 + 40, (zy rfl).trans (lLac 0 _ _ _ _ _ _ _ _ _ _ _ _ _ _ _ _ _ _ _ _ _ _ _ _ _ _ _ _ _ _ _ _ _ _ _ _ _ _ _ _ (yp (yO hc1)))⟩
 obtain ⟨hc2, rfl, rfl⟩ := zH h2
 exact ⟨0 + 40, (zy rfl).trans (lLac 0 _ _ _ _ _ _ _ _ _ _ _ _ _ _ _ _ _ _ _ _ _ _ _ _ _ _ _ _ _ _ _ _ _ _ _ _ _ _ _ _ (yp (yp (zk hc2))))⟩
noncomputable def o20 : OrcT := o19
noncomputable def t20 : TellT := ((12, 28), sLac) :: t19
noncomputable abbrev tn20 : FuncId → TAn := zj base o20 t20
theorem ok20 : TnOk Try.prog tn20 (mkA base) dOk := by
 have h0 : TnOk Try.prog (tn19) (mkA base) dOk := ok19
 have h1 := zK h0 h0 (p := ((12, 28), sLac)) wLac
 exact h1
noncomputable def v12 (x0 x1 x2 x3 x4 : Int) (x5 : (List (List (PKt × Int)))) (x6 x7 x8 x9 A B C D E F G I J K L : Int) (M : Bool) (N : Bool) (O : Int) : Option (Int × Int × Int × Int × Int × (List (List (PKt × Int))) × Int × Int × Int × Int × Int × Int × Int × Int × Int × (List PKt) × Int) := (cond (ok (v31 F G I J K L M N)) (cond (!val (v31 F G I J K L M N)) (some (0, 0, 0, 0, 0, [], 0, 0, 0, 0, 0, 0, 0, 0, 0, [], (1 : Int))) (cond (isL (Lac O x0 x1 x2 x3 x4 x5 x6 x7 x8 x9 A B C D E F G I J K L M N 0 0 0 0 0 0 0 0 0 0 0 0 0 0 [])) (some ((zb (Lac O x0 x1 x2 x3 x4 x5 x6 x7 x8 x9 A B C D E F G I J K L M N 0 0 0 0 0 0 0 0 0 0 0 0 0 0 [])).2.1, (zb (Lac O x0 x1 x2 x3 x4 x5 x6 x7 x8 x9 A B C D E F G I J K L M N 0 0 0 0 0 0 0 0 0 0 0 0 0 0 [])).2.2.1, (zb (Lac O x0 x1 x2 x3 x4 x5 x6 x7 x8 x9 A B C D E F G I J K L M N 0 0 0 0 0 0 0 0 0 0 0 0 0 0 [])).2.2.2.1, (zb (Lac O x0 x1 x2 x3 x4 x5 x6 x7 x8 x9 A B C D E F G I J K L M N 0 0 0 0 0 0 0 0 0 0 0 0 0 0 [])).2.2.2.2.1, (zb (Lac O x0 x1 x2 x3 x4 x5 x6 x7 x8 x9 A B C D E F G I J K L M N 0 0 0 0 0 0 0 0 0 0 0 0 0 0 [])).2.2.2.2.2.1, [], (zb (Lac O x0 x1 x2 x3 x4 x5 x6 x7 x8 x9 A B C D E F G I J K L M N 0 0 0 0 0 0 0 0 0 0 0 0 0 0 [])).2.2.2.2.2.2.1, (zb (Lac O x0 x1 x2 x3 x4 x5 x6 x7 x8 x9 A B C D E F G I J K L M N 0 0 0 0 0 0 0 0 0 0 0 0 0 0 [])).2.2.2.2.2.2.2.1, (zb (Lac O x0 x1 x2 x3 x4 x5 x6 x7 x8 x9 A B C D E F G I J K L M N 0 0 0 0 0 0 0 0 0 0 0 0 0 0 [])).2.2.2.2.2.2.2.2.1, (zb (Lac O x0 x1 x2 x3 x4 x5 x6 x7 x8 x9 A B C D E F G I J K L M N 0 0 0 0 0 0 0 0 0 0 0 0 0 0 [])).2.2.2.2.2.2.2.2.2.1, (zb (Lac O x0 x1 x2 x3 x4 x5 x6 x7 x8 x9 A B C D E F G I J K L M N 0 0 0 0 0 0 0 0 0 0 0 0 0 0 [])).2.2.2.2.2.2.2.2.2.2.1, (zb (Lac O x0 x1 x2 x3 x4 x5 x6 x7 x8 x9 A B C D E F G I J K L M N 0 0 0 0 0 0 0 0 0 0 0 0 0 0 [])).2.2.2.2.2.2.2.2.2.2.2.1, (zb (Lac O x0 x1 x2 x3 x4 x5 x6 x7 x8 x9 A B C D E F G I J K L M N 0 0 0 0 0 0 0 0 0 0 0 0 0 0 [])).2.2.2.2.2.2.2.2.2.2.2.2.1, (zb (Lac O x0 x1 x2 x3 x4 x5 x6 x7 x8 x9 A B C D E F G I J K L M N 0 0 0 0 0 0 0 0 0 0 0 0 0 0 [])).2.2.2.2.2.2.2.2.2.2.2.2.2.1, (zb (Lac O x0 x1 x2 x3 x4 x5 x6 x7 x8 x9 A B C D E F G I J K L M N 0 0 0 0 0 0 0 0 0 0 0 0 0 0 [])).2.2.2.2.2.2.2.2.2.2.2.2.2.2, [], (zb (Lac O x0 x1 x2 x3 x4 x5 x6 x7 x8 x9 A B C D E F G I J K L M N 0 0 0 0 0 0 0 0 0 0 0 0 0 0 [])).1)) (cond (isL (za (Lac O x0 x1 x2 x3 x4 x5 x6 x7 x8 x9 A B C D E F G I J K L M N 0 0 0 0 0 0 0 0 0 0 0 0 0 0 []))) (some (x0, x1, x2, x3, x4, [(zb (za (Lac O x0 x1 x2 x3 x4 x5 x6 x7 x8 x9 A B C D E F G I J K L M N 0 0 0 0 0 0 0 0 0 0 0 0 0 0 []))).2.2], x6, x7, x8, x9, A, B, C, O, E, (zb (za (Lac O x0 x1 x2 x3 x4 x5 x6 x7 x8 x9 A B C D E F G I J K L M N 0 0 0 0 0 0 0 0 0 0 0 0 0 0 []))).2.1, (zb (za (Lac O x0 x1 x2 x3 x4 x5 x6 x7 x8 x9 A B C D E F G I J K L M N 0 0 0 0 0 0 0 0 0 0 0 0 0 0 []))).1)) (cond (ok (za (za (Lac O x0 x1 x2 x3 x4 x5 x6 x7 x8 x9 A B C D E F G I J K L M N 0 0 0 0 0 0 0 0 0 0 0 0 0 0 [])))) (some (x0, x1, x2, x3, x4, [(val (za (za (Lac O x0 x1 x2 x3 x4 x5 x6 x7 x8 x9 A B C D E F G I J K L M N 0 0 0 0 0 0 0 0 0 0 0 0 0 0 [])))).2], x6, x7, x8, x9, A, B, C, O, E, [], (val (za (za (Lac O x0 x1 x2 x3 x4 x5 x6 x7 x8 x9 A B C D E F G I J K L M N 0 0 0 0 0 0 0 0 0 0 0 0 0 0 [])))).1)) none)))) none)
theorem ev12 (x0 x1 x2 x3 x4 : Int) (x5 : (List (List (PKt × Int)))) (x6 x7 x8 x9 A B C D E F G I J K L : Int) (M : Bool) (N : Bool) (O : Int) : zJ Try.prog (tn20 12) (TM.evF Try.prog (tn20) dOk 40) dOk 40 12 [.agg [I4 (x0), I4 (x1), I4 (x2), I4 (x3), I4 (x4), .d 51 (.list 55 QDy) (x5), I4 (x6), I4 (x7), I4 (x8), I4 (x9), I4 (A), I4 (B), I4 (C), I4 (D), .int .u64 (E)], .agg [I4 (F), I4 (G), I4 (I), I4 (J), I4 (K), I4 (L), .bool (M), .bool (N)], .sc (I4 O)] [] = (v12 x0 x1 x2 x3 x4 x5 x6 x7 x8 x9 A B C D E F G I J K L M N O).bind fun r => some ([.agg [I4 (r.1), I4 (r.2.1), I4 (r.2.2.1), I4 (r.2.2.2.1), I4 (r.2.2.2.2.1), .d 51 (.list 55 QDy) (r.2.2.2.2.2.1 : List (List (PKt × Int))), I4 (r.2.2.2.2.2.2.1), I4 (r.2.2.2.2.2.2.2.1), I4 (r.2.2.2.2.2.2.2.2.1), I4 (r.2.2.2.2.2.2.2.2.2.1), I4 (r.2.2.2.2.2.2.2.2.2.2.1), I4 (r.2.2.2.2.2.2.2.2.2.2.2.1), I4 (r.2.2.2.2.2.2.2.2.2.2.2.2.1), I4 (r.2.2.2.2.2.2.2.2.2.2.2.2.2.1), .int .u64 (r.2.2.2.2.2.2.2.2.2.2.2.2.2.2.1)], .sc (.d 30 PKy (r.2.2.2.2.2.2.2.2.2.2.2.2.2.2.2.1 : List PKt)), .sc (I4 (r.2.2.2.2.2.2.2.2.2.2.2.2.2.2.2.2))], []) := by
 refine Eq.trans (b := (cond (ok (v31 F G I J K L M N)) (cond (!val (v31 F G I J K L M N)) (some ([.agg [I4 (0), I4 (0), I4 (0), I4 (0), I4 (0), .d 51 (.list 55 QDy) ([] : List (List (PKt × Int))), I4 (0), I4 (0), I4 (0), I4 (0), I4 (0), I4 (0), I4 (0), I4 (0), .int .u64 (0)], .sc (.d 30 PKy ([] : List PKt)), .sc (I4 ((1 : Int)))], [])) (cond (isL (Lac O x0 x1 x2 x3 x4 x5 x6 x7 x8 x9 A B C D E F G I J K L M N 0 0 0 0 0 0 0 0 0 0 0 0 0 0 [])) (some ([.agg [I4 (zb (Lac O x0 x1 x2 x3 x4 x5 x6 x7 x8 x9 A B C D E F G I J K L M N 0 0 0 0 0 0 0 0 0 0 0 0 0 0 [])).2.1, I4 (zb (Lac O x0 x1 x2 x3 x4 x5 x6 x7 x8 x9 A B C D E F G I J K L M N 0 0 0 0 0 0 0 0 0 0 0 0 0 0 [])).2.2.1, I4 (zb (Lac O x0 x1 x2 x3 x4 x5 x6 x7 x8 x9 A B C D E F G I J K L M N 0 0 0 0 0 0 0 0 0 0 0 0 0 0 [])).2.2.2.1, I4 (zb (Lac O x0 x1 x2 x3 x4 x5 x6 x7 x8 x9 A B C D E F G I J K L M N 0 0 0 0 0 0 0 0 0 0 0 0 0 0 [])).2.2.2.2.1, I4 (zb (Lac O x0 x1 x2 x3 x4 x5 x6 x7 x8 x9 A B C D E F G I J K L M N 0 0 0 0 0 0 0 0 0 0 0 0 0 0 [])).2.2.2.2.2.1, .d 51 (.list 55 QDy) ([] : List (List (PKt × Int))), I4 (zb (Lac O x0 x1 x2 x3 x4 x5 x6 x7 x8 x9 A B C D E F G I J K L M N 0 0 0 0 0 0 0 0 0 0 0 0 0 0 [])).2.2.2.2.2.2.1, I4 (zb (Lac O x0 x1 x2 x3 x4 x5 x6 x7 x8 x9 A B C D E F G I J K L M N 0 0 0 0 0 0 0 0 0 0 0 0 0 0 [])).2.2.2.2.2.2.2.1, I4 (zb (Lac O x0 x1 x2 x3 x4 x5 x6 x7 x8 x9 A B C D E F G I J K L M N 0 0 0 0 0 0 0 0 0 0 0 0 0 0 [])).2.2.2.2.2.2.2.2.1, I4 (zb (Lac O x0 x1 x2 x3 x4 x5 x6 x7 x8 x9 A B C D E F G I J K L M N 0 0 0 0 0 0 0 0 0 0 0 0 0 0 [])).2.2.2.2.2.2.2.2.2.1, I4 (zb (Lac O x0 x1 x2 x3 x4 x5 x6 x7 x8 x9 A B C D E F G I J K L M N 0 0 0 0 0 0 0 0 0 0 0 0 0 0 [])).2.2.2.2.2.2.2.2.2.2.1, I4 (zb (Lac O x0 x1 x2 x3 x4 x5 x6 x7 x8 x9 A B C D E F G I J K L M N 0 0 0 0 0 0 0 0 0 0 0 0 0 0 [])).2.2.2.2.2.2.2.2.2.2.2.1, I4 (zb (Lac O x0 x1 x2 x3 x4 x5 x6 x7 x8 x9 A B C D E F G I J K L M N 0 0 0 0 0 0 0 0 0 0 0 0 0 0 [])).2.2.2.2.2.2.2.2.2.2.2.2.1, I4 (zb (Lac O x0 x1 x2 x3 x4 x5 x6 x7 x8 x9 A B C D E F G I J K L M N 0 0 0 0 0 0 0 0 0 0 0 0 0 0 [])).2.2.2.2.2.2.2.2.2.2.2.2.2.1, .int .u64 (zb (Lac O x0 x1 x2 x3 x4 x5 x6 x7 x8 x9 A B C D E F G I J K L M N 0 0 0 0 0 0 0 0 0 0 0 0 0 0 [])).2.2.2.2.2.2.2.2.2.2.2.2.2.2], .sc (.d 30 PKy ([] : List PKt)), .sc (I4 (zb (Lac O x0 x1 x2 x3 x4 x5 x6 x7 x8 x9 A B C D E F G I J K L M N 0 0 0 0 0 0 0 0 0 0 0 0 0 0 [])).1)], [])) (cond (isL (za (Lac O x0 x1 x2 x3 x4 x5 x6 x7 x8 x9 A B C D E F G I J K L M N 0 0 0 0 0 0 0 0 0 0 0 0 0 0 []))) (some ([.agg [I4 (x0), I4 (x1), I4 (x2), I4 (x3), I4 (x4), .d 51 (.list 55 QDy) ([(zb (za (Lac O x0 x1 x2 x3 x4 x5 x6 x7 x8 x9 A B C D E F G I J K L M N 0 0 0 0 0 0 0 0 0 0 0 0 0 0 []))).2.2] : List (List (PKt × Int))), I4 (x6), I4 (x7), I4 (x8), I4 (x9), I4 (A), I4 (B), I4 (C), I4 (O), .int .u64 (E)], .sc (.d 30 PKy ((zb (za (Lac O x0 x1 x2 x3 x4 x5 x6 x7 x8 x9 A B C D E F G I J K L M N 0 0 0 0 0 0 0 0 0 0 0 0 0 0 []))).2.1 : List PKt)), .sc (I4 (zb (za (Lac O x0 x1 x2 x3 x4 x5 x6 x7 x8 x9 A B C D E F G I J K L M N 0 0 0 0 0 0 0 0 0 0 0 0 0 0 []))).1)], [])) (cond (ok (za (za (Lac O x0 x1 x2 x3 x4 x5 x6 x7 x8 x9 A B C D E F G I J K L M N 0 0 0 0 0 0 0 0 0 0 0 0 0 0 [])))) (some ([.agg [I4 (x0), I4 (x1), I4 (x2), I4 (x3), I4 (x4), .d 51 (.list 55 QDy) ([(val (za (za (Lac O x0 x1 x2 x3 x4 x5 x6 x7 x8 x9 A B C D E F G I J K L M N 0 0 0 0 0 0 0 0 0 0 0 0 0 0 [])))).2] : List (List (PKt × Int))), I4 (x6), I4 (x7), I4 (x8), I4 (x9), I4 (A), I4 (B), I4 (C), I4 (O), .int .u64 (E)], .sc (.d 30 PKy ([] : List PKt)), .sc (I4 (val (za (za (Lac O x0 x1 x2 x3 x4 x5 x6 x7 x8 x9 A B C D E F G I J K L M N 0 0 0 0 0 0 0 0 0 0 0 0 0 0 [])))).1)], [])) none)))) none)) (by kernel_rfl) ?_
 unfold v12
 refine zc ?_ ?_
 refine zc ?_ ?_
 rfl
 refine zc ?_ ?_
 rfl
 refine zc ?_ ?_
 rfl
 refine zc ?_ ?_
 rfl
 rfl
 rfl
noncomputable def sv12 : OrcS := fun al H => dC al fun y1 l2 => dA y1 fun y3 => dK y3 fun x0 l4 => dK l4 fun x1 l5 => dK l5 fun x2 l6 => dK l6 fun x3 l7 => dK l7 fun x4 l8 => dC l8 fun y9 l10 => dD 51 (.list 55 QDy) y9 fun x5 => dK l10 fun x6 l11 => dK l11 fun x7 l12 => dK l12 fun x8 l13 => dK l13 fun x9 l14 => dK l14 fun A l15 => dK l15 fun B l16 => dK l16 fun C l17 => dK l17 fun D l18 => dCI .u64 l18 fun E l19 => dE l19 <| dC l2 fun y20 l21 => dA y20 fun y22 => dK y22 fun F l23 => dK l23 fun G l24 => dK l24 fun I l25 => dK l25 fun J l26 => dK l26 fun K l27 => dK l27 fun L l28 => dC l28 fun y29 l30 => zA y29 fun M => dC l30 fun y31 l32 => zA y31 fun N => dE l32 <| dC l21 fun y33 l34 => dS y33 fun y35 => yX .i64 y35 fun O => dE l34 <| dE H <|  some [(ok (v12 x0 x1 x2 x3 x4 x5 x6 x7 x8 x9 A B C D E F G I J K L M N O), [.agg [I4 ((val (v12 x0 x1 x2 x3 x4 x5 x6 x7 x8 x9 A B C D E F G I J K L M N O)).1), I4 ((val (v12 x0 x1 x2 x3 x4 x5 x6 x7 x8 x9 A B C D E F G I J K L M N O)).2.1), I4 ((val (v12 x0 x1 x2 x3 x4 x5 x6 x7 x8 x9 A B C D E F G I J K L M N O)).2.2.1), I4 ((val (v12 x0 x1 x2 x3 x4 x5 x6 x7 x8 x9 A B C D E F G I J K L M N O)).2.2.2.1), I4 ((val (v12 x0 x1 x2 x3 x4 x5 x6 x7 x8 x9 A B C D E F G I J K L M N O)).2.2.2.2.1), .d 51 (.list 55 QDy) ((val (v12 x0 x1 x2 x3 x4 x5 x6 x7 x8 x9 A B C D E F G I J K L M N O)).2.2.2.2.2.1 : List (List (PKt × Int))), I4 ((val (v12 x0 x1 x2 x3 x4 x5 x6 x7 x8 x9 A B C D E F G I J K L M N O)).2.2.2.2.2.2.1), I4 ((val (v12 x0 x1 x2 x3 x4 x5 x6 x7 x8 x9 A B C D E F G I J K L M N O)).2.2.2.2.2.2.2.1), I4 ((val (v12 x0 x1 x2 x3 x4 x5 x6 x7 x8 x9 A B C D E F G I J K L M N O)).2.2.2.2.2.2.2.2.1), I4 ((val (v12 x0 x1 x2 x3 x4 x5 x6 x7 x8 x9 A B C D E F G I J K L M N O)).2.2.2.2.2.2.2.2.2.1), I4 ((val (v12 x0 x1 x2 x3 x4 x5 x6 x7 x8 x9 A B C D E F G I J K L M N O)).2.2.2.2.2.2.2.2.2.2.1), I4 ((val (v12 x0 x1 x2 x3 x4 x5 x6 x7 x8 x9 A B C D E F G I J K L M N O)).2.2.2.2.2.2.2.2.2.2.2.1), I4 ((val (v12 x0 x1 x2 x3 x4 x5 x6 x7 x8 x9 A B C D E F G I J K L M N O)).2.2.2.2.2.2.2.2.2.2.2.2.1), I4 ((val (v12 x0 x1 x2 x3 x4 x5 x6 x7 x8 x9 A B C D E F G I J K L M N O)).2.2.2.2.2.2.2.2.2.2.2.2.2.1), .int .u64 ((val (v12 x0 x1 x2 x3 x4 x5 x6 x7 x8 x9 A B C D E F G I J K L M N O)).2.2.2.2.2.2.2.2.2.2.2.2.2.2.1)], .sc (.d 30 PKy ((val (v12 x0 x1 x2 x3 x4 x5 x6 x7 x8 x9 A B C D E F G I J K L M N O)).2.2.2.2.2.2.2.2.2.2.2.2.2.2.2.1 : List PKt)), .sc (I4 ((val (v12 x0 x1 x2 x3 x4 x5 x6 x7 x8 x9 A B C D E F G I J K L M N O)).2.2.2.2.2.2.2.2.2.2.2.2.2.2.2.2))], [])]
theorem wv12 : zI Try.prog dOk base o20 t20 (12, sv12) := by
 intro al H q hq0 rs H2 h2
 have hq : sv12 al H = some q := hq0
 clear hq0
 unfold sv12 at hq
 replace hq := dCq hq; obtain ⟨_, _, rfl, hq⟩ := hq
 replace hq := dAq hq; obtain ⟨_, rfl, hq⟩ := hq
 replace hq := dJ5 hq; obtain ⟨_, _, _, _, _, _, rfl, hq⟩ := hq
 replace hq := dCq hq; obtain ⟨_, _, rfl, hq⟩ := hq
 replace hq := dDq hq; obtain ⟨_, rfl, hq⟩ := hq
 replace hq := dJ9 hq; obtain ⟨_, _, _, _, _, _, _, _, _, _, rfl, hq⟩ := hq
 replace hq := dEq hq; obtain ⟨rfl, hq⟩ := hq
 replace hq := dCq hq; obtain ⟨_, _, rfl, hq⟩ := hq
 replace hq := dAq hq; obtain ⟨_, rfl, hq⟩ := hq
 replace hq := dJ6 hq; obtain ⟨_, _, _, _, _, _, _, rfl, hq⟩ := hq
 replace hq := dCq hq; obtain ⟨_, _, rfl, hq⟩ := hq
 replace hq := zr hq; obtain ⟨_, rfl, hq⟩ := hq
 replace hq := dCq hq; obtain ⟨_, _, rfl, hq⟩ := hq
 replace hq := zr hq; obtain ⟨_, rfl, hq⟩ := hq
 replace hq := dEq hq; obtain ⟨rfl, hq⟩ := hq
 replace hq := dCq hq; obtain ⟨_, _, rfl, hq⟩ := hq
 replace hq := dSq hq; obtain ⟨_, rfl, hq⟩ := hq
 replace hq := yS hq; obtain ⟨_, rfl, hq⟩ := hq
 replace hq := dEq hq; obtain ⟨rfl, hq⟩ := hq
 replace hq := dEq hq; obtain ⟨rfl, hq⟩ := hq
 cases hq
 obtain ⟨hc0, rfl, rfl⟩ := zq h2
 exact ⟨41, (zW (by kernel_rfl)).trans ((ev12 _ _ _ _ _ _ _ _ _ _ _ _ _ _ _ _ _ _ _ _ _ _ _ _).trans (zE (zk hc0)))⟩
noncomputable def o21 : OrcT := (12, sv12) :: o20
noncomputable def t21 : TellT := t20
noncomputable abbrev tn21 : FuncId → TAn := zj base o21 t21
theorem ok21 : TnOk Try.prog tn21 (mkA base) dOk := by
 have h0 : TnOk Try.prog (tn20) (mkA base) dOk := ok20
 have h1 := zM h0 h0 (p := (12, sv12)) wv12
 exact h1
noncomputable def sLaA : TellS := fun S => dCS 0 S fun y1 y2 y3 => dSI 1 .i64 y1 fun x0 l4 => dSt 4 l4 fun y6 l5 => dL 4 0 y6 <| dSt 5 l5 fun y8 l7 => dL 5 0 y8 <| dSs 9 l7 fun y10 l9 => Ue y10 <| dSs 11 l9 fun y12 l11 => yY 0 0 y12 <| dSs 12 l11 fun y14 l13 => dFn 36 0 [none] y14 fun y15 => dC y15 fun y16 l17 => yY 0 0 y16 <| dE l17 <| dE l13 <| dLo 4 y2 fun y18 l19 => dK y18 fun x1 l20 => dK l20 fun x2 l21 => dK l21 fun x3 l22 => dK l22 fun x4 l23 => dK l23 fun x5 l24 => dC l24 fun y25 l26 => dG 1 y25 <| dK l26 fun x6 l27 => dK l27 fun x7 l28 => dK l28 fun x8 l29 => dK l29 fun x9 l30 => dK l30 fun A l31 => dK l31 fun B l32 => dK l32 fun C l33 => dK l33 fun D l34 => dCI .u64 l34 fun E l35 => dE l35 <| dLo 5 l19 fun y36 l37 => dK y36 fun F l38 => dK l38 fun G l39 => dK l39 fun I l40 => dK l40 fun J l41 => dK l41 fun K l42 => dK l42 fun L l43 => dC l43 fun y44 l45 => zA y44 fun M => dC l45 fun y46 l47 => zA y46 fun N => dE l47 <| dE l37 <| dHB 33 y3 fun y49 l48 => dC y49 fun y50 l51 => dNil y50 <| dE l51 <| dHR 51 (.list 55 QDy) l48 fun O l52 => dE l52 <|  some []
theorem wLaA : zG Try.prog dOk base o21 t21 ((14, 0), sLaA) := by
 refine ⟨.loop (zh Try.prog (tn0 14) 14 0), 0, by kernel_rfl, ?_⟩
 intro S alts e S' h10 h2
 have h1 : sLaA S = some alts := h10
 clear h10
 unfold sLaA at h1
 replace h1 := yN h1; obtain ⟨_, _, _, rfl, h1⟩ := h1
 replace h1 := xp h1; obtain ⟨_, _, rfl, h1⟩ := h1
 replace h1 := zd h1; obtain ⟨_, _, rfl, h1⟩ := h1
 replace h1 := dLq h1; obtain ⟨rfl, h1⟩ := h1
 replace h1 := zd h1; obtain ⟨_, _, rfl, h1⟩ := h1
 replace h1 := dLq h1; obtain ⟨rfl, h1⟩ := h1
 replace h1 := yf h1; obtain ⟨_, _, rfl, h1⟩ := h1
 replace h1 := Un h1; obtain ⟨rfl, h1⟩ := h1
 replace h1 := yf h1; obtain ⟨_, _, rfl, h1⟩ := h1
 replace h1 := yD h1; obtain ⟨rfl, h1⟩ := h1
 replace h1 := yf h1; obtain ⟨_, _, rfl, h1⟩ := h1
 replace h1 := Tf h1; obtain ⟨_, rfl, h1⟩ := h1
 replace h1 := dCq h1; obtain ⟨_, _, rfl, h1⟩ := h1
 replace h1 := yD h1; obtain ⟨rfl, h1⟩ := h1
 replace h1 := dEq h1; obtain ⟨rfl, h1⟩ := h1
 replace h1 := dEq h1; obtain ⟨rfl, h1⟩ := h1
 replace h1 := zQ h1; obtain ⟨_, _, rfl, h1⟩ := h1
 replace h1 := dJ5 h1; obtain ⟨_, _, _, _, _, _, rfl, h1⟩ := h1
 replace h1 := dCq h1; obtain ⟨_, _, rfl, h1⟩ := h1
 replace h1 := dGq h1; obtain ⟨rfl, h1⟩ := h1
 replace h1 := dJ9 h1; obtain ⟨_, _, _, _, _, _, _, _, _, _, rfl, h1⟩ := h1
 replace h1 := dEq h1; obtain ⟨rfl, h1⟩ := h1
 replace h1 := zQ h1; obtain ⟨_, _, rfl, h1⟩ := h1
 replace h1 := dJ6 h1; obtain ⟨_, _, _, _, _, _, _, rfl, h1⟩ := h1
 replace h1 := dCq h1; obtain ⟨_, _, rfl, h1⟩ := h1
 replace h1 := zr h1; obtain ⟨_, rfl, h1⟩ := h1
 replace h1 := dCq h1; obtain ⟨_, _, rfl, h1⟩ := h1
 replace h1 := zr h1; obtain ⟨_, rfl, h1⟩ := h1
 replace h1 := dEq h1; obtain ⟨rfl, h1⟩ := h1
 replace h1 := dEq h1; obtain ⟨rfl, h1⟩ := h1
 replace h1 := xz h1; obtain ⟨_, _, rfl, h1⟩ := h1
 replace h1 := dCq h1; obtain ⟨_, _, rfl, h1⟩ := h1
 replace h1 := dNilq h1; obtain ⟨rfl, h1⟩ := h1
 replace h1 := dEq h1; obtain ⟨rfl, h1⟩ := h1
 replace h1 := yE h1; obtain ⟨_, _, rfl, h1⟩ := h1
 replace h1 := dEq h1; obtain ⟨rfl, h1⟩ := h1
 cases h1
 cases h2
noncomputable def o22 : OrcT := o21
noncomputable def t22 : TellT := ((14, 0), sLaA) :: t21
noncomputable abbrev tn22 : FuncId → TAn := zj base o22 t22
theorem ok22 : TnOk Try.prog tn22 (mkA base) dOk := by
 have h0 : TnOk Try.prog (tn21) (mkA base) dOk := ok21
 have h1 := zK h0 h0 (p := ((14, 0), sLaA)) wLaA
 exact h1
noncomputable def sLaz : TellS := fun S => dCS 0 S fun y1 y2 y3 => dSI 1 .i64 y1 fun x0 l4 => dSt 2 l4 fun y6 l5 => dL 2 0 y6 <| dSt 4 l5 fun y8 l7 => dL 4 0 y8 <| dSt 5 l7 fun y10 l9 => dL 5 0 y10 <| dSs 9 l9 fun y12 l11 => Ue y12 <| dE l11 <| dLo 4 y2 fun y13 l14 => dK y13 fun x1 l15 => dK l15 fun x2 l16 => dK l16 fun x3 l17 => dK l17 fun x4 l18 => dK l18 fun x5 l19 => dC l19 fun y20 l21 => dG 0 y20 <| dK l21 fun x6 l22 => dK l22 fun x7 l23 => dK l23 fun x8 l24 => dK l24 fun x9 l25 => dK l25 fun A l26 => dK l26 fun B l27 => dK l27 fun C l28 => dK l28 fun D l29 => dCI .u64 l29 fun E l30 => dE l30 <| dLo 5 l14 fun y31 l32 => dK y31 fun F l33 => dK l33 fun G l34 => dK l34 fun I l35 => dK l35 fun J l36 => dK l36 fun K l37 => dK l37 fun L l38 => dC l38 fun y39 l40 => zA y39 fun M => dC l40 fun y41 l42 => zA y41 fun N => dE l42 <| dE l32 <| dHR 51 (.list 55 QDy) y3 fun O l43 => dE l43 <|  some []
theorem wLaz : zG Try.prog dOk base o22 t22 ((14, 36), sLaz) := by
 refine ⟨(zh Try.prog (tn0 14) 14 36), 0, by kernel_rfl, ?_⟩
 intro S alts e S' h10 h2
 have h1 : sLaz S = some alts := h10
 clear h10
 unfold sLaz at h1
 replace h1 := yN h1; obtain ⟨_, _, _, rfl, h1⟩ := h1
 replace h1 := xp h1; obtain ⟨_, _, rfl, h1⟩ := h1
 replace h1 := zd h1; obtain ⟨_, _, rfl, h1⟩ := h1
 replace h1 := dLq h1; obtain ⟨rfl, h1⟩ := h1
 replace h1 := zd h1; obtain ⟨_, _, rfl, h1⟩ := h1
 replace h1 := dLq h1; obtain ⟨rfl, h1⟩ := h1
 replace h1 := zd h1; obtain ⟨_, _, rfl, h1⟩ := h1
 replace h1 := dLq h1; obtain ⟨rfl, h1⟩ := h1
 replace h1 := yf h1; obtain ⟨_, _, rfl, h1⟩ := h1
 replace h1 := Un h1; obtain ⟨rfl, h1⟩ := h1
 replace h1 := dEq h1; obtain ⟨rfl, h1⟩ := h1
 replace h1 := zQ h1; obtain ⟨_, _, rfl, h1⟩ := h1
 replace h1 := dJ5 h1; obtain ⟨_, _, _, _, _, _, rfl, h1⟩ := h1
 replace h1 := dCq h1; obtain ⟨_, _, rfl, h1⟩ := h1
 replace h1 := dGq h1; obtain ⟨rfl, h1⟩ := h1
 replace h1 := dJ9 h1; obtain ⟨_, _, _, _, _, _, _, _, _, _, rfl, h1⟩ := h1
 replace h1 := dEq h1; obtain ⟨rfl, h1⟩ := h1
 replace h1 := zQ h1; obtain ⟨_, _, rfl, h1⟩ := h1
 replace h1 := dJ6 h1; obtain ⟨_, _, _, _, _, _, _, rfl, h1⟩ := h1
 replace h1 := dCq h1; obtain ⟨_, _, rfl, h1⟩ := h1
 replace h1 := zr h1; obtain ⟨_, rfl, h1⟩ := h1
 replace h1 := dCq h1; obtain ⟨_, _, rfl, h1⟩ := h1
 replace h1 := zr h1; obtain ⟨_, rfl, h1⟩ := h1
 replace h1 := dEq h1; obtain ⟨rfl, h1⟩ := h1
 replace h1 := dEq h1; obtain ⟨rfl, h1⟩ := h1
 replace h1 := yE h1; obtain ⟨_, _, rfl, h1⟩ := h1
 replace h1 := dEq h1; obtain ⟨rfl, h1⟩ := h1
 cases h1
 cases h2
noncomputable def o23 : OrcT := o22
noncomputable def t23 : TellT := ((14, 36), sLaz) :: t22
noncomputable abbrev tn23 : FuncId → TAn := zj base o23 t23
theorem ok23 : TnOk Try.prog tn23 (mkA base) dOk := by
 have h0 : TnOk Try.prog (tn22) (mkA base) dOk := ok22
 have h1 := zK h0 h0 (p := ((14, 36), sLaz)) wLaz
 exact h1
noncomputable def v38 (x0 x1 x2 x3 x4 x5 x6 x7 x8 x9 A B C D E : Int) (F : Nat) (G : (List (PKt × Int))) : Option (Int × Int) := (some (0, 0))
theorem ev38 (x0 x1 x2 x3 x4 x5 x6 x7 x8 x9 A B C D E : Int) (F : Nat) (G : (List (PKt × Int))) : zJ Try.prog (tn23 38) (TM.evF Try.prog (tn23) dOk 40) dOk 40 38 [.sc (.ptr 0 0)] [.box 69 [I4 (x0), I4 (x1), I4 (x2), I4 (x3), I4 (x4), .sc 1 (0) (1), I4 (x5), I4 (x6), I4 (x7), I4 (x8), I4 (x9), I4 (A), I4 (B), I4 (C), .int .u64 (D), I4 (E)], .crow 51 [.sl 2 (1) (F)], .row 55 QDy (G)] = (v38 x0 x1 x2 x3 x4 x5 x6 x7 x8 x9 A B C D E F G).bind fun r => some ([], [.box 69 [I4 (x0), I4 (x1), I4 (x2), I4 (x3), I4 (x4), .sc 1 (0) (1), I4 (r.1), I4 (r.2), I4 (x7), I4 (x8), I4 (x9), I4 (A), I4 (B), I4 (C), .int .u64 (D), I4 (E)], .crow 51 [.sl 2 (1) (F)], .row 55 QDy (G)]) := by
 refine Eq.trans (b := (some ([], [.box 69 [I4 (x0), I4 (x1), I4 (x2), I4 (x3), I4 (x4), .sc 1 (0) (1), I4 (0), I4 (0), I4 (x7), I4 (x8), I4 (x9), I4 (A), I4 (B), I4 (C), .int .u64 (D), I4 (E)], .crow 51 [.sl 2 (1) (F)], .row 55 QDy (G)]))) (by kernel_rfl) ?_
 unfold v38
 rfl
noncomputable def sv38 : OrcS := fun al H => dC al fun y1 l2 => dS y1 fun y3 => yY 0 0 y3 <| dE l2 <| dHB 69 H fun y5 l4 => dK y5 fun x0 l6 => dK l6 fun x1 l7 => dK l7 fun x2 l8 => dK l8 fun x3 l9 => dK l9 fun x4 l10 => dC l10 fun y11 l12 => dSc 1 y11 fun y13 y14 => dN y13 0 <| dN y14 1 <| dK l12 fun x5 l15 => dK l15 fun x6 l16 => dK l16 fun x7 l17 => dK l17 fun x8 l18 => dK l18 fun x9 l19 => dK l19 fun A l20 => dK l20 fun B l21 => dK l21 fun C l22 => dCI .u64 l22 fun D l23 => dK l23 fun E l24 => dE l24 <| dC l4 fun y26 l25 => wt 51 y26 fun y27 => dC y27 fun y28 l29 => dSl 2 y28 fun y30 F => dN y30 1 <| dE l29 <| dHR 55 QDy l25 fun G l31 => dE l31 <|  some [(ok (v38 x0 x1 x2 x3 x4 x5 x6 x7 x8 x9 A B C D E F G), [], [.box 69 [I4 (x0), I4 (x1), I4 (x2), I4 (x3), I4 (x4), .sc 1 (0) (1), I4 ((val (v38 x0 x1 x2 x3 x4 x5 x6 x7 x8 x9 A B C D E F G)).1), I4 ((val (v38 x0 x1 x2 x3 x4 x5 x6 x7 x8 x9 A B C D E F G)).2), I4 (x7), I4 (x8), I4 (x9), I4 (A), I4 (B), I4 (C), .int .u64 (D), I4 (E)], .crow 51 [.sl 2 (1) (F)], .row 55 QDy (G)])]
theorem wv38 : zI Try.prog dOk base o23 t23 (38, sv38) := by
 intro al H q hq0 rs H2 h2
 have hq : sv38 al H = some q := hq0
 clear hq0
 unfold sv38 at hq
 replace hq := dCq hq; obtain ⟨_, _, rfl, hq⟩ := hq
 replace hq := dSq hq; obtain ⟨_, rfl, hq⟩ := hq
 replace hq := yD hq; obtain ⟨rfl, hq⟩ := hq
 replace hq := dEq hq; obtain ⟨rfl, hq⟩ := hq
 replace hq := xz hq; obtain ⟨_, _, rfl, hq⟩ := hq
 replace hq := dJ5 hq; obtain ⟨_, _, _, _, _, _, rfl, hq⟩ := hq
 replace hq := dCq hq; obtain ⟨_, _, rfl, hq⟩ := hq
 replace hq := ZS hq; obtain ⟨_, _, rfl, hq⟩ := hq
 replace hq := dNq hq; obtain ⟨rfl, hq⟩ := hq
 replace hq := dNq hq; obtain ⟨rfl, hq⟩ := hq
 replace hq := dJ9 hq; obtain ⟨_, _, _, _, _, _, _, _, _, _, rfl, hq⟩ := hq
 replace hq := zC hq; obtain ⟨_, _, rfl, hq⟩ := hq
 replace hq := dEq hq; obtain ⟨rfl, hq⟩ := hq
 replace hq := dCq hq; obtain ⟨_, _, rfl, hq⟩ := hq
 replace hq := xQ hq; obtain ⟨_, rfl, hq⟩ := hq
 replace hq := dCq hq; obtain ⟨_, _, rfl, hq⟩ := hq
 replace hq := dSlq hq; obtain ⟨_, _, rfl, hq⟩ := hq
 replace hq := dNq hq; obtain ⟨rfl, hq⟩ := hq
 replace hq := dEq hq; obtain ⟨rfl, hq⟩ := hq
 replace hq := yE hq; obtain ⟨_, _, rfl, hq⟩ := hq
 replace hq := dEq hq; obtain ⟨rfl, hq⟩ := hq
 cases hq
 obtain ⟨hc0, rfl, rfl⟩ := zq h2
 exact ⟨41, (zW (by kernel_rfl)).trans ((ev38 _ _ _ _ _ _ _ _ _ _ _ _ _ _ _ _ _).trans (zE (zk hc0)))⟩
noncomputable def o24 : OrcT := (38, sv38) :: o23
noncomputable def t24 : TellT := t23
noncomputable abbrev tn24 : FuncId → TAn := zj base o24 t24
theorem ok24 : TnOk Try.prog tn24 (mkA base) dOk := by
 have h0 : TnOk Try.prog (tn23) (mkA base) dOk := ok23
 have h1 := zM h0 h0 (p := (38, sv38)) wv38
 exact h1
noncomputable def v37 (x0 x1 x2 x3 x4 x5 x6 x7 x8 x9 A B C D E F : Int) (G : Nat) (I : (List (PKt × Int))) : Option (Bool × Int × Int) := (cond (decide (x0 < x2)) (some (false, (val (v38 x1 x2 x3 x4 x5 x6 x7 x8 x9 A B C D E F G I)).1, (val (v38 x1 x2 x3 x4 x5 x6 x7 x8 x9 A B C D E F G I)).2)) (cond (x6 == 0) (some (false, IntKind.wrap IntKind.i64 (IntKind.wrap IntKind.i64 (F + x3) + (1 : Int)), x7)) (cond (decide (F ≥ IntKind.wrap IntKind.i64 (x6 - (1 : Int)))) (cond (decide (IntKind.wrap IntKind.i64 (min (1000000000 : Int) (IntKind.wrap IntKind.i64 (x7 + (1 : Int))) + (1 : Int)) ≠ 0)) (some (true, IntKind.wrap IntKind.i64 (x6 + max (1 : Int) (IntKind.wrap IntKind.i64 (Int.tdiv x3 (IntKind.wrap IntKind.i64 (min (1000000000 : Int) (IntKind.wrap IntKind.i64 (x7 + (1 : Int))) + (1 : Int)))))), min (1000000000 : Int) (IntKind.wrap IntKind.i64 (x7 + (1 : Int))))) none) (some (false, x6, x7)))))
theorem ev37 (x0 x1 x2 x3 x4 x5 x6 x7 x8 x9 A B C D E F : Int) (G : Nat) (I : (List (PKt × Int))) : zJ Try.prog (tn24 37) (TM.evF Try.prog (tn24) dOk 40) dOk 40 37 [.sc (.ptr 0 0), .sc (I4 x0)] [.box 69 [I4 (x1), I4 (x2), I4 (x3), I4 (x4), I4 (x5), .sc 1 (0) (1), I4 (x6), I4 (x7), I4 (x8), I4 (x9), I4 (A), I4 (B), I4 (C), I4 (D), .int .u64 (E), I4 (F)], .crow 51 [.sl 2 (1) (G)], .row 55 QDy (I)] = (v37 x0 x1 x2 x3 x4 x5 x6 x7 x8 x9 A B C D E F G I).bind fun r => some ([.sc (.bool (r.1))], [.box 69 [I4 (x1), I4 (x2), I4 (x3), I4 (x4), I4 (x5), .sc 1 (0) (1), I4 (r.2.1), I4 (r.2.2), I4 (x8), I4 (x9), I4 (A), I4 (B), I4 (C), I4 (D), .int .u64 (E), I4 (F)], .crow 51 [.sl 2 (1) (G)], .row 55 QDy (I)]) := by
 refine Eq.trans (b := (cond (decide (x0 < x2)) (some ([.sc (.bool (false))], [.box 69 [I4 (x1), I4 (x2), I4 (x3), I4 (x4), I4 (x5), .sc 1 (0) (1), I4 (val (v38 x1 x2 x3 x4 x5 x6 x7 x8 x9 A B C D E F G I)).1, I4 (val (v38 x1 x2 x3 x4 x5 x6 x7 x8 x9 A B C D E F G I)).2, I4 (x8), I4 (x9), I4 (A), I4 (B), I4 (C), I4 (D), .int .u64 (E), I4 (F)], .crow 51 [.sl 2 (1) (G)], .row 55 QDy (I)])) (cond (x6 == 0) (some ([.sc (.bool (false))], [.box 69 [I4 (x1), I4 (x2), I4 (x3), I4 (x4), I4 (x5), .sc 1 (0) (1), I4 (IntKind.wrap IntKind.i64 (IntKind.wrap IntKind.i64 (F + x3) + (1 : Int))), I4 (x7), I4 (x8), I4 (x9), I4 (A), I4 (B), I4 (C), I4 (D), .int .u64 (E), I4 (F)], .crow 51 [.sl 2 (1) (G)], .row 55 QDy (I)])) (cond (decide (F ≥ IntKind.wrap IntKind.i64 (x6 - (1 : Int)))) (cond (decide (IntKind.wrap IntKind.i64 (min (1000000000 : Int) (IntKind.wrap IntKind.i64 (x7 + (1 : Int))) + (1 : Int)) ≠ 0)) (some ([.sc (.bool (true))], [.box 69 [I4 (x1), I4 (x2), I4 (x3), I4 (x4), I4 (x5), .sc 1 (0) (1), I4 (IntKind.wrap IntKind.i64 (x6 + max (1 : Int) (IntKind.wrap IntKind.i64 (Int.tdiv x3 (IntKind.wrap IntKind.i64 (min (1000000000 : Int) (IntKind.wrap IntKind.i64 (x7 + (1 : Int))) + (1 : Int))))))), I4 (min (1000000000 : Int) (IntKind.wrap IntKind.i64 (x7 + (1 : Int)))), I4 (x8), I4 (x9), I4 (A), I4 (B), I4 (C), I4 (D), .int .u64 (E), I4 (F)], .crow 51 [.sl 2 (1) (G)], .row 55 QDy (I)])) none) (some ([.sc (.bool (false))], [.box 69 [I4 (x1), I4 (x2), I4 (x3), I4 (x4), I4 (x5), .sc 1 (0) (1), I4 (x6), I4 (x7), I4 (x8), I4 (x9), I4 (A), I4 (B), I4 (C), I4 (D), .int .u64 (E), I4 (F)], .crow 51 [.sl 2 (1) (G)], .row 55 QDy (I)])))))) (by kernel_rfl) ?_
 unfold v37
 refine zc ?_ ?_
 rfl
 refine zc ?_ ?_
 rfl
 refine zc ?_ ?_
 refine zc ?_ ?_
 rfl
 rfl
 rfl
noncomputable def sv37 : OrcS := fun al H => dC al fun y1 l2 => dS y1 fun y3 => yY 0 0 y3 <| dC l2 fun y4 l5 => dS y4 fun y6 => yX .i64 y6 fun x0 => dE l5 <| dHB 69 H fun y8 l7 => dK y8 fun x1 l9 => dK l9 fun x2 l10 => dK l10 fun x3 l11 => dK l11 fun x4 l12 => dK l12 fun x5 l13 => dC l13 fun y14 l15 => dSc 1 y14 fun y16 y17 => dN y16 0 <| dN y17 1 <| dK l15 fun x6 l18 => dK l18 fun x7 l19 => dK l19 fun x8 l20 => dK l20 fun x9 l21 => dK l21 fun A l22 => dK l22 fun B l23 => dK l23 fun C l24 => dK l24 fun D l25 => dCI .u64 l25 fun E l26 => dK l26 fun F l27 => dE l27 <| dC l7 fun y29 l28 => wt 51 y29 fun y30 => dC y30 fun y31 l32 => dSl 2 y31 fun y33 G => dN y33 1 <| dE l32 <| dHR 55 QDy l28 fun I l34 => dE l34 <|  some [(ok (v37 x0 x1 x2 x3 x4 x5 x6 x7 x8 x9 A B C D E F G I), [.sc (.bool ((val (v37 x0 x1 x2 x3 x4 x5 x6 x7 x8 x9 A B C D E F G I)).1))], [.box 69 [I4 (x1), I4 (x2), I4 (x3), I4 (x4), I4 (x5), .sc 1 (0) (1), I4 ((val (v37 x0 x1 x2 x3 x4 x5 x6 x7 x8 x9 A B C D E F G I)).2.1), I4 ((val (v37 x0 x1 x2 x3 x4 x5 x6 x7 x8 x9 A B C D E F G I)).2.2), I4 (x8), I4 (x9), I4 (A), I4 (B), I4 (C), I4 (D), .int .u64 (E), I4 (F)], .crow 51 [.sl 2 (1) (G)], .row 55 QDy (I)])]
theorem wv37 : zI Try.prog dOk base o24 t24 (37, sv37) := by
 intro al H q hq0 rs H2 h2
 have hq : sv37 al H = some q := hq0
 clear hq0
 unfold sv37 at hq
 replace hq := dCq hq; obtain ⟨_, _, rfl, hq⟩ := hq
 replace hq := dSq hq; obtain ⟨_, rfl, hq⟩ := hq
 replace hq := yD hq; obtain ⟨rfl, hq⟩ := hq
 replace hq := dCq hq; obtain ⟨_, _, rfl, hq⟩ := hq
 replace hq := dSq hq; obtain ⟨_, rfl, hq⟩ := hq
 replace hq := yS hq; obtain ⟨_, rfl, hq⟩ := hq
 replace hq := dEq hq; obtain ⟨rfl, hq⟩ := hq
 replace hq := xz hq; obtain ⟨_, _, rfl, hq⟩ := hq
 replace hq := dJ5 hq; obtain ⟨_, _, _, _, _, _, rfl, hq⟩ := hq
 replace hq := dCq hq; obtain ⟨_, _, rfl, hq⟩ := hq
 replace hq := ZS hq; obtain ⟨_, _, rfl, hq⟩ := hq
 replace hq := dNq hq; obtain ⟨rfl, hq⟩ := hq
 replace hq := dNq hq; obtain ⟨rfl, hq⟩ := hq
 replace hq := dJ9 hq; obtain ⟨_, _, _, _, _, _, _, _, _, _, rfl, hq⟩ := hq
 replace hq := zC hq; obtain ⟨_, _, rfl, hq⟩ := hq
 replace hq := dEq hq; obtain ⟨rfl, hq⟩ := hq
 replace hq := dCq hq; obtain ⟨_, _, rfl, hq⟩ := hq
 replace hq := xQ hq; obtain ⟨_, rfl, hq⟩ := hq
 replace hq := dCq hq; obtain ⟨_, _, rfl, hq⟩ := hq
 replace hq := dSlq hq; obtain ⟨_, _, rfl, hq⟩ := hq
 replace hq := dNq hq; obtain ⟨rfl, hq⟩ := hq
 replace hq := dEq hq; obtain ⟨rfl, hq⟩ := hq
 replace hq := yE hq; obtain ⟨_, _, rfl, hq⟩ := hq
 replace hq := dEq hq; obtain ⟨rfl, hq⟩ := hq
 cases hq
 obtain ⟨hc0, rfl, rfl⟩ := zq h2
 exact ⟨41, (zW (by kernel_rfl)).trans ((ev37 _ _ _ _ _ _ _ _ _ _ _ _ _ _ _ _ _ _).trans (zE (zk hc0)))⟩
noncomputable def o25 : OrcT := (37, sv37) :: o24
noncomputable def t25 : TellT := t24
noncomputable abbrev tn25 : FuncId → TAn := zj base o25 t25
theorem ok25 : TnOk Try.prog tn25 (mkA base) dOk := by
 have h0 : TnOk Try.prog (tn24) (mkA base) dOk := ok24
 have h1 := zM h0 h0 (p := (37, sv37)) wv37
 exact h1
noncomputable def v36 (x0 x1 x2 x3 x4 x5 : Int) (x6 : Bool) (x7 : Bool) (x8 : (List PKt)) : Option (List PKt) := (cond (decide (List.length x8 + List.length [(x0, x1, x2, x3, x4, x5, x6, x7)] ≤ nat_lit 2147483648)) (some (x8 ++ [(x0, x1, x2, x3, x4, x5, x6, x7)])) none)
theorem ev36 (x0 x1 x2 x3 x4 x5 : Int) (x6 : Bool) (x7 : Bool) (x8 : (List PKt)) : zJ Try.prog (tn25 36) (TM.evF Try.prog (tn25) dOk 40) dOk 40 36 [.agg [I4 (x0), I4 (x1), I4 (x2), I4 (x3), I4 (x4), I4 (x5), .bool (x6), .bool (x7)], .sc (.ptr 0 0)] [.box 33 [.g 1], .row 30 PKy (x8)] = (v36 x0 x1 x2 x3 x4 x5 x6 x7 x8).bind fun r => some ([], [.box 33 [.g 2], .dead, .row 30 PKy (r : List PKt)]) := by
 refine Eq.trans (b := (cond (decide (List.length x8 + List.length [(x0, x1, x2, x3, x4, x5, x6, x7)] ≤ nat_lit 2147483648)) (some ([], [.box 33 [.g 2], .dead, .row 30 PKy (x8 ++ [(x0, x1, x2, x3, x4, x5, x6, x7)] : List PKt)])) none)) (by kernel_rfl) ?_
 unfold v36
 refine zc ?_ ?_
 rfl
 rfl
noncomputable def sv36 : OrcS := fun al H => dC al fun y1 l2 => dA y1 fun y3 => dK y3 fun x0 l4 => dK l4 fun x1 l5 => dK l5 fun x2 l6 => dK l6 fun x3 l7 => dK l7 fun x4 l8 => dK l8 fun x5 l9 => dC l9 fun y10 l11 => zA y10 fun x6 => dC l11 fun y12 l13 => zA y12 fun x7 => dE l13 <| dC l2 fun y14 l15 => dS y14 fun y16 => yY 0 0 y16 <| dE l15 <| dHB 33 H fun y18 l17 => dC y18 fun y19 l20 => dG 1 y19 <| dE l20 <| dHR 30 PKy l17 fun x8 l21 => dE l21 <|  some [(ok (v36 x0 x1 x2 x3 x4 x5 x6 x7 x8), [], [.box 33 [.g 2], .dead, .row 30 PKy ((val (v36 x0 x1 x2 x3 x4 x5 x6 x7 x8)) : List PKt)])]
theorem wv36 : zI Try.prog dOk base o25 t25 (36, sv36) := by
 intro al H q hq0 rs H2 h2
 have hq : sv36 al H = some q := hq0
 clear hq0
 unfold sv36 at hq
 replace hq := dCq hq; obtain ⟨_, _, rfl, hq⟩ := hq
 replace hq := dAq hq; obtain ⟨_, rfl, hq⟩ := hq
 replace hq := dJ6 hq; obtain ⟨_, _, _, _, _, _, _, rfl, hq⟩ := hq
 replace hq := dCq hq; obtain ⟨_, _, rfl, hq⟩ := hq
 replace hq := zr hq; obtain ⟨_, rfl, hq⟩ := hq
 replace hq := dCq hq; obtain ⟨_, _, rfl, hq⟩ := hq
 replace hq := zr hq; obtain ⟨_, rfl, hq⟩ := hq
 replace hq := dEq hq; obtain ⟨rfl, hq⟩ := hq
 replace hq := dCq hq; obtain ⟨_, _, rfl, hq⟩ := hq
 replace hq := dSq hq; obtain ⟨_, rfl, hq⟩ := hq
 replace hq := yD hq; obtain ⟨rfl, hq⟩ := hq
 replace hq := dEq hq; obtain ⟨rfl, hq⟩ := hq
 replace hq := xz hq; obtain ⟨_, _, rfl, hq⟩ := hq
 replace hq := dCq hq; obtain ⟨_, _, rfl, hq⟩ := hq
 replace hq := dGq hq; obtain ⟨rfl, hq⟩ := hq
 replace hq := dEq hq; obtain ⟨rfl, hq⟩ := hq
 replace hq := yE hq; obtain ⟨_, _, rfl, hq⟩ := hq
 replace hq := dEq hq; obtain ⟨rfl, hq⟩ := hq
 cases hq
 obtain ⟨hc0, rfl, rfl⟩ := zq h2
 exact ⟨41, (zW (by kernel_rfl)).trans ((ev36 _ _ _ _ _ _ _ _ _).trans (zE (zk hc0)))⟩
noncomputable def Laq (x0 : Bool) (x1 x2 x3 x4 x5 x6 x7 x8 x9 A B C D E F G I J K L : Int) (M : Bool) (N : Bool) (O P Q R T U : Int) (V : Bool) (W : Bool) (X Y x33 x34 x35 x36 x37 x38 x39 x40 x41 x42 x43 x44 x45 x46 : Int) (x47 : Nat) (x48 : (List (PKt × Int))) (x49 : (List PKt)) (x50 : (List (List (PKt × Int)))) : Option (Bool × Int × Bool) := (cond W (some (true, 0, true)) (some (true, 0, x0)))
noncomputable def xLaq (x0 : Bool) (x1 x2 x3 x4 x5 x6 x7 x8 x9 A B C D E F G I J K L : Int) (M : Bool) (N : Bool) (O P Q R T U : Int) (V : Bool) (W : Bool) (X Y x33 x34 x35 x36 x37 x38 x39 x40 x41 x42 x43 x44 x45 x46 : Int) (x47 : Nat) (x48 : (List (PKt × Int))) (x49 : (List PKt)) (x50 : (List (List (PKt × Int)))) : (Bool × Int × Bool) → Ex × CS := fun r => (.ret, { sl := [(4, .l 4 0), (5, .l 5 0), (6, .v (.sc (.bool (r.1)))), (7, .v (.sc (.g 0))), (8, .v (.sc (I4 (r.2.1))))], lo := [(4, [I4 (Y), I4 (x33), I4 (x34), I4 (x35), I4 (x36), .sc 1 (0) (1), I4 (x37), I4 (x38), I4 (x39), I4 (x40), I4 (x41), I4 (x42), I4 (x43), I4 (x44), .int .u64 (x45)]), (5, [I4 (O), I4 (P), I4 (Q), I4 (R), I4 (T), I4 (U), .bool (V), .bool (r.2.2)])], h := [.row 30 PKy (x49), .crow 51 [.sl 2 (1) (x47)], .row 55 QDy (x48)], n0 := 0, w := true })
theorem bLaq (k : Nat) (cX : Ex → CS → Option (Ex × CS)) (x0 : Bool) (x1 x2 x3 x4 x5 x6 x7 x8 x9 A B C D E F G I J K L : Int) (M : Bool) (N : Bool) (O P Q R T U : Int) (V : Bool) (W : Bool) (X Y x33 x34 x35 x36 x37 x38 x39 x40 x41 x42 x43 x44 x45 x46 : Int) (x47 : Nat) (x48 : (List (PKt × Int))) (x49 : (List PKt)) (x50 : (List (List (PKt × Int)))) : zo Try.prog (tn25 14) (TM.evF Try.prog (tn25) dOk (k + 40)) dOk (k + 40) (zh Try.prog (tn0 14) 14 100) 1 100 { sl := [(4, .l 4 0), (5, .l 5 0), (9, .v (.sc (.ptr 0 0))), (11, .v (.sc (.ptr 3 0))), (13, .l 13 0), (14, .v (.sc (.bool x0))), (46, .l 13 8), (52, .l 13 0), (53, .l 13 6)], lo := [(4, [I4 (x1), I4 (x2), I4 (x3), I4 (x4), I4 (x5), .g 5, I4 (x6), I4 (x7), I4 (x8), I4 (x9), I4 (A), I4 (B), I4 (C), I4 (D), .int .u64 (E)]), (5, [I4 (F), I4 (G), I4 (I), I4 (J), I4 (K), I4 (L), .bool (M), .bool (N)]), (13, [I4 (O), I4 (P), I4 (Q), I4 (R), I4 (T), I4 (U), .bool (V), .bool (W), I4 (X)])], h := [.box 69 [I4 (Y), I4 (x33), I4 (x34), I4 (x35), I4 (x36), .sc 1 (0) (1), I4 (x37), I4 (x38), I4 (x39), I4 (x40), I4 (x41), I4 (x42), I4 (x43), I4 (x44), .int .u64 (x45), I4 (x46)], .crow 51 [.sl 2 (1) (x47)], .row 55 QDy (x48), .box 33 [.g 4], .row 30 PKy (x49), .row 51 (.list 55 QDy) (x50)], n0 := 0, w := false } cX = (cond W (cX .ret { sl := [(4, .l 4 0), (5, .l 5 0), (6, .v (.sc (.bool (true)))), (7, .v (.sc (.g 0))), (8, .v (.sc (I4 (0))))], lo := [(4, [I4 (Y), I4 (x33), I4 (x34), I4 (x35), I4 (x36), .sc 1 (0) (1), I4 (x37), I4 (x38), I4 (x39), I4 (x40), I4 (x41), I4 (x42), I4 (x43), I4 (x44), .int .u64 (x45)]), (5, [I4 (O), I4 (P), I4 (Q), I4 (R), I4 (T), I4 (U), .bool (V), .bool (true)])], h := [.row 30 PKy (x49), .crow 51 [.sl 2 (1) (x47)], .row 55 QDy (x48)], n0 := 0, w := true }) (cX .ret { sl := [(4, .l 4 0), (5, .l 5 0), (6, .v (.sc (.bool (true)))), (7, .v (.sc (.g 0))), (8, .v (.sc (I4 (0))))], lo := [(4, [I4 (Y), I4 (x33), I4 (x34), I4 (x35), I4 (x36), .sc 1 (0) (1), I4 (x37), I4 (x38), I4 (x39), I4 (x40), I4 (x41), I4 (x42), I4 (x43), I4 (x44), .int .u64 (x45)]), (5, [I4 (O), I4 (P), I4 (Q), I4 (R), I4 (T), I4 (U), .bool (V), .bool (x0)])], h := [.row 30 PKy (x49), .crow 51 [.sl 2 (1) (x47)], .row 55 QDy (x48)], n0 := 0, w := true })) := by kernel_rfl
theorem lLaq (k : Nat) (x0 : Bool) (x1 x2 x3 x4 x5 x6 x7 x8 x9 A B C D E F G I J K L : Int) (M : Bool) (N : Bool) (O P Q R T U : Int) (V : Bool) (W : Bool) (X Y x33 x34 x35 x36 x37 x38 x39 x40 x41 x42 x43 x44 x45 x46 : Int) (x47 : Nat) (x48 : (List (PKt × Int))) (x49 : (List PKt)) (x50 : (List (List (PKt × Int)))) (r : (Bool × Int × Bool)) : Laq x0 x1 x2 x3 x4 x5 x6 x7 x8 x9 A B C D E F G I J K L M N O P Q R T U V W X Y x33 x34 x35 x36 x37 x38 x39 x40 x41 x42 x43 x44 x45 x46 x47 x48 x49 x50 = some r → zo Try.prog (tn25 14) (TM.evF Try.prog (tn25) dOk (k + 40)) dOk (k + 40) (zh Try.prog (tn0 14) 14 100) 1 100 { sl := [(4, .l 4 0), (5, .l 5 0), (9, .v (.sc (.ptr 0 0))), (11, .v (.sc (.ptr 3 0))), (13, .l 13 0), (14, .v (.sc (.bool x0))), (46, .l 13 8), (52, .l 13 0), (53, .l 13 6)], lo := [(4, [I4 (x1), I4 (x2), I4 (x3), I4 (x4), I4 (x5), .g 5, I4 (x6), I4 (x7), I4 (x8), I4 (x9), I4 (A), I4 (B), I4 (C), I4 (D), .int .u64 (E)]), (5, [I4 (F), I4 (G), I4 (I), I4 (J), I4 (K), I4 (L), .bool (M), .bool (N)]), (13, [I4 (O), I4 (P), I4 (Q), I4 (R), I4 (T), I4 (U), .bool (V), .bool (W), I4 (X)])], h := [.box 69 [I4 (Y), I4 (x33), I4 (x34), I4 (x35), I4 (x36), .sc 1 (0) (1), I4 (x37), I4 (x38), I4 (x39), I4 (x40), I4 (x41), I4 (x42), I4 (x43), I4 (x44), .int .u64 (x45), I4 (x46)], .crow 51 [.sl 2 (1) (x47)], .row 55 QDy (x48), .box 33 [.g 4], .row 30 PKy (x49), .row 51 (.list 55 QDy) (x50)], n0 := 0, w := false } (fun e s => some (e, s)) = some (xLaq x0 x1 x2 x3 x4 x5 x6 x7 x8 x9 A B C D E F G I J K L M N O P Q R T U V W X Y x33 x34 x35 x36 x37 x38 x39 x40 x41 x42 x43 x44 x45 x46 x47 x48 x49 x50 r) := by
 rw [bLaq]
 unfold Laq
 refine ze ?_ ?_
 intro h; cases h; rfl
 intro h; cases h; rfl
noncomputable def sLaq : TellS := fun S => dCS 0 S fun y1 y2 y3 => dSt 4 y1 fun y5 l4 => dL 4 0 y5 <| dSt 5 l4 fun y7 l6 => dL 5 0 y7 <| dSs 9 l6 fun y9 l8 => yY 0 0 y9 <| dSs 11 l8 fun y11 l10 => yY 3 0 y11 <| dSt 13 l10 fun y13 l12 => dL 13 0 y13 <| dSs 14 l12 fun y15 l14 => zA y15 fun x0 => dSt 46 l14 fun y17 l16 => dL 13 8 y17 <| dSt 52 l16 fun y19 l18 => dL 13 0 y19 <| dSt 53 l18 fun y21 l20 => dL 13 6 y21 <| dE l20 <| dLo 4 y2 fun y22 l23 => dK y22 fun x1 l24 => dK l24 fun x2 l25 => dK l25 fun x3 l26 => dK l26 fun x4 l27 => dK l27 fun x5 l28 => dC l28 fun y29 l30 => dG 5 y29 <| dK l30 fun x6 l31 => dK l31 fun x7 l32 => dK l32 fun x8 l33 => dK l33 fun x9 l34 => dK l34 fun A l35 => dK l35 fun B l36 => dK l36 fun C l37 => dK l37 fun D l38 => dCI .u64 l38 fun E l39 => dE l39 <| dLo 5 l23 fun y40 l41 => dK y40 fun F l42 => dK l42 fun G l43 => dK l43 fun I l44 => dK l44 fun J l45 => dK l45 fun K l46 => dK l46 fun L l47 => dC l47 fun y48 l49 => zA y48 fun M => dC l49 fun y50 l51 => zA y50 fun N => dE l51 <| dLo 13 l41 fun y52 l53 => dK y52 fun O l54 => dK l54 fun P l55 => dK l55 fun Q l56 => dK l56 fun R l57 => dK l57 fun T l58 => dK l58 fun U l59 => dC l59 fun y60 l61 => zA y60 fun V => dC l61 fun y62 l63 => zA y62 fun W => dK l63 fun X l64 => dE l64 <| dE l53 <| dHB 69 y3 fun y66 l65 => dK y66 fun Y l67 => dK l67 fun x33 l68 => dK l68 fun x34 l69 => dK l69 fun x35 l70 => dK l70 fun x36 l71 => dC l71 fun y72 l73 => dSc 1 y72 fun y74 y75 => dN y74 0 <| dN y75 1 <| dK l73 fun x37 l76 => dK l76 fun x38 l77 => dK l77 fun x39 l78 => dK l78 fun x40 l79 => dK l79 fun x41 l80 => dK l80 fun x42 l81 => dK l81 fun x43 l82 => dK l82 fun x44 l83 => dCI .u64 l83 fun x45 l84 => dK l84 fun x46 l85 => dE l85 <| dC l65 fun y87 l86 => wt 51 y87 fun y88 => dC y88 fun y89 l90 => dSl 2 y89 fun y91 x47 => dN y91 1 <| dE l90 <| dHR 55 QDy l86 fun x48 l92 => dHB 33 l92 fun y94 l93 => dC y94 fun y95 l96 => dG 4 y95 <| dE l96 <| dHR 30 PKy l93 fun x49 l97 => dHR 51 (.list 55 QDy) l97 fun x50 l98 => dE l98 <|  some [(ok (Laq x0 x1 x2 x3 x4 x5 x6 x7 x8 x9 A B C D E F G I J K L M N O P Q R T U V W X Y x33 x34 x35 x36 x37 x38 x39 x40 x41 x42 x43 x44 x45 x46 x47 x48 x49 x50), .ret, { sl := [(4, .l 4 0), (5, .l 5 0), (6, .v (.sc (.bool ((val (Laq x0 x1 x2 x3 x4 x5 x6 x7 x8 x9 A B C D E F G I J K L M N O P Q R T U V W X Y x33 x34 x35 x36 x37 x38 x39 x40 x41 x42 x43 x44 x45 x46 x47 x48 x49 x50)).1)))), (7, .v (.sc (.g 0))), (8, .v (.sc (I4 ((val (Laq x0 x1 x2 x3 x4 x5 x6 x7 x8 x9 A B C D E F G I J K L M N O P Q R T U V W X Y x33 x34 x35 x36 x37 x38 x39 x40 x41 x42 x43 x44 x45 x46 x47 x48 x49 x50)).2.1))))], lo := [(4, [I4 (Y), I4 (x33), I4 (x34), I4 (x35), I4 (x36), .sc 1 (0) (1), I4 (x37), I4 (x38), I4 (x39), I4 (x40), I4 (x41), I4 (x42), I4 (x43), I4 (x44), .int .u64 (x45)]), (5, [I4 (O), I4 (P), I4 (Q), I4 (R), I4 (T), I4 (U), .bool (V), .bool ((val (Laq x0 x1 x2 x3 x4 x5 x6 x7 x8 x9 A B C D E F G I J K L M N O P Q R T U V W X Y x33 x34 x35 x36 x37 x38 x39 x40 x41 x42 x43 x44 x45 x46 x47 x48 x49 x50)).2.2)])], h := [.row 30 PKy (x49), .crow 51 [.sl 2 (1) (x47)], .row 55 QDy (x48)], n0 := 0, w := true })]
theorem wLaq : zG Try.prog dOk base o25 t25 ((14, 100), sLaq) := by
 refine ⟨(zh Try.prog (tn0 14) 14 100), 1, by kernel_rfl, ?_⟩
 intro S alts e S' h10 h2
 have h1 : sLaq S = some alts := h10
 clear h10
 unfold sLaq at h1
 replace h1 := yN h1; obtain ⟨_, _, _, rfl, h1⟩ := h1
 replace h1 := zd h1; obtain ⟨_, _, rfl, h1⟩ := h1
 replace h1 := dLq h1; obtain ⟨rfl, h1⟩ := h1
 replace h1 := zd h1; obtain ⟨_, _, rfl, h1⟩ := h1
 replace h1 := dLq h1; obtain ⟨rfl, h1⟩ := h1
 replace h1 := yf h1; obtain ⟨_, _, rfl, h1⟩ := h1
 replace h1 := yD h1; obtain ⟨rfl, h1⟩ := h1
 replace h1 := yf h1; obtain ⟨_, _, rfl, h1⟩ := h1
 replace h1 := yD h1; obtain ⟨rfl, h1⟩ := h1
 replace h1 := zd h1; obtain ⟨_, _, rfl, h1⟩ := h1
 replace h1 := dLq h1; obtain ⟨rfl, h1⟩ := h1
 replace h1 := yf h1; obtain ⟨_, _, rfl, h1⟩ := h1
 replace h1 := zr h1; obtain ⟨_, rfl, h1⟩ := h1
 replace h1 := zd h1; obtain ⟨_, _, rfl, h1⟩ := h1
 replace h1 := dLq h1; obtain ⟨rfl, h1⟩ := h1
 replace h1 := zd h1; obtain ⟨_, _, rfl, h1⟩ := h1
 replace h1 := dLq h1; obtain ⟨rfl, h1⟩ := h1
 replace h1 := zd h1; obtain ⟨_, _, rfl, h1⟩ := h1
 replace h1 := dLq h1; obtain ⟨rfl, h1⟩ := h1
 replace h1 := dEq h1; obtain ⟨rfl, h1⟩ := h1
 replace h1 := zQ h1; obtain ⟨_, _, rfl, h1⟩ := h1
 replace h1 := dJ5 h1; obtain ⟨_, _, _, _, _, _, rfl, h1⟩ := h1
 replace h1 := dCq h1; obtain ⟨_, _, rfl, h1⟩ := h1
 replace h1 := dGq h1; obtain ⟨rfl, h1⟩ := h1
 replace h1 := dJ9 h1; obtain ⟨_, _, _, _, _, _, _, _, _, _, rfl, h1⟩ := h1
 replace h1 := dEq h1; obtain ⟨rfl, h1⟩ := h1
 replace h1 := zQ h1; obtain ⟨_, _, rfl, h1⟩ := h1
 replace h1 := dJ6 h1; obtain ⟨_, _, _, _, _, _, _, rfl, h1⟩ := h1
 replace h1 := dCq h1; obtain ⟨_, _, rfl, h1⟩ := h1
 replace h1 := zr h1; obtain ⟨_, rfl, h1⟩ := h1
 replace h1 := dCq h1; obtain ⟨_, _, rfl, h1⟩ := h1
 replace h1 := zr h1; obtain ⟨_, rfl, h1⟩ := h1
 replace h1 := dEq h1; obtain ⟨rfl, h1⟩ := h1
 replace h1 := zQ h1; obtain ⟨_, _, rfl, h1⟩ := h1
 replace h1 := dJ6 h1; obtain ⟨_, _, _, _, _, _, _, rfl, h1⟩ := h1
 replace h1 := dCq h1; obtain ⟨_, _, rfl, h1⟩ := h1
 replace h1 := zr h1; obtain ⟨_, rfl, h1⟩ := h1
 replace h1 := dCq h1; obtain ⟨_, _, rfl, h1⟩ := h1
 replace h1 := zr h1; obtain ⟨_, rfl, h1⟩ := h1
 replace h1 := zC h1; obtain ⟨_, _, rfl, h1⟩ := h1
 replace h1 := dEq h1; obtain ⟨rfl, h1⟩ := h1
 replace h1 := dEq h1; obtain ⟨rfl, h1⟩ := h1
 replace h1 := xz h1; obtain ⟨_, _, rfl, h1⟩ := h1
 replace h1 := dJ5 h1; obtain ⟨_, _, _, _, _, _, rfl, h1⟩ := h1
 replace h1 := dCq h1; obtain ⟨_, _, rfl, h1⟩ := h1
 replace h1 := ZS h1; obtain ⟨_, _, rfl, h1⟩ := h1
 replace h1 := dNq h1; obtain ⟨rfl, h1⟩ := h1
 replace h1 := dNq h1; obtain ⟨rfl, h1⟩ := h1
 replace h1 := dJ9 h1; obtain ⟨_, _, _, _, _, _, _, _, _, _, rfl, h1⟩ := h1
 replace h1 := zC h1; obtain ⟨_, _, rfl, h1⟩ := h1
 replace h1 := dEq h1; obtain ⟨rfl, h1⟩ := h1
 replace h1 := dCq h1; obtain ⟨_, _, rfl, h1⟩ := h1
 replace h1 := xQ h1; obtain ⟨_, rfl, h1⟩ := h1
 replace h1 := dCq h1; obtain ⟨_, _, rfl, h1⟩ := h1
 replace h1 := dSlq h1; obtain ⟨_, _, rfl, h1⟩ := h1
 replace h1 := dNq h1; obtain ⟨rfl, h1⟩ := h1
 replace h1 := dEq h1; obtain ⟨rfl, h1⟩ := h1
 replace h1 := yE h1; obtain ⟨_, _, rfl, h1⟩ := h1
 replace h1 := xz h1; obtain ⟨_, _, rfl, h1⟩ := h1
 replace h1 := dCq h1; obtain ⟨_, _, rfl, h1⟩ := h1
 replace h1 := dGq h1; obtain ⟨rfl, h1⟩ := h1
 replace h1 := dEq h1; obtain ⟨rfl, h1⟩ := h1
 replace h1 := yE h1; obtain ⟨_, _, rfl, h1⟩ := h1
 replace h1 := yE h1; obtain ⟨_, _, rfl, h1⟩ := h1
 replace h1 := dEq h1; obtain ⟨rfl, h1⟩ := h1
 cases h1
 obtain ⟨hc0, rfl, rfl⟩ := zH h2
 exact ⟨0 + 40, (zy rfl).trans (lLaq 0 _ _ _ _ _ _ _ _ _ _ _ _ _ _ _ _ _ _ _ _ _ _ _ _ _ _ _ _ _ _ _ _ _ _ _ _ _ _ _ _ _ _ _ _ _ _ _ _ _ _ _ _ (zk hc0))⟩
noncomputable def Lao (x0 : Bool) (x1 x2 x3 x4 x5 x6 x7 x8 x9 A B C D E F G I J K L : Int) (M : Bool) (N : Bool) (O P Q R T U : Int) (V : Bool) (W : Bool) (X Y x33 x34 x35 x36 x37 x38 x39 x40 x41 x42 x43 x44 x45 x46 : Int) (x47 : Nat) (x48 : (List (PKt × Int))) (x49 : (List PKt)) (x50 : (List (List (PKt × Int)))) : Option (Bool × Int × Bool) := (cond W (some (true, 0, true)) (some (true, 0, x0)))
noncomputable def xLao (x0 : Bool) (x1 x2 x3 x4 x5 x6 x7 x8 x9 A B C D E F G I J K L : Int) (M : Bool) (N : Bool) (O P Q R T U : Int) (V : Bool) (W : Bool) (X Y x33 x34 x35 x36 x37 x38 x39 x40 x41 x42 x43 x44 x45 x46 : Int) (x47 : Nat) (x48 : (List (PKt × Int))) (x49 : (List PKt)) (x50 : (List (List (PKt × Int)))) : (Bool × Int × Bool) → Ex × CS := fun r => (.ret, { sl := [(4, .l 4 0), (5, .l 5 0), (6, .v (.sc (.bool (r.1)))), (7, .v (.sc (.g 0))), (8, .v (.sc (I4 (r.2.1))))], lo := [(4, [I4 (Y), I4 (x33), I4 (x34), I4 (x35), I4 (x36), .sc 1 (0) (1), I4 (x37), I4 (x38), I4 (x39), I4 (x40), I4 (x41), I4 (x42), I4 (x43), I4 (x44), .int .u64 (x45)]), (5, [I4 (O), I4 (P), I4 (Q), I4 (R), I4 (T), I4 (U), .bool (V), .bool (r.2.2)])], h := [.row 30 PKy (x49), .crow 51 [.sl 2 (1) (x47)], .row 55 QDy (x48)], n0 := 0, w := true })
theorem bLao (k : Nat) (cX : Ex → CS → Option (Ex × CS)) (x0 : Bool) (x1 x2 x3 x4 x5 x6 x7 x8 x9 A B C D E F G I J K L : Int) (M : Bool) (N : Bool) (O P Q R T U : Int) (V : Bool) (W : Bool) (X Y x33 x34 x35 x36 x37 x38 x39 x40 x41 x42 x43 x44 x45 x46 : Int) (x47 : Nat) (x48 : (List (PKt × Int))) (x49 : (List PKt)) (x50 : (List (List (PKt × Int)))) : zo Try.prog (tn25 14) (TM.evF Try.prog (tn25) dOk (k + 40)) dOk (k + 40) (zh Try.prog (tn0 14) 14 100) 1 100 { sl := [(4, .l 4 0), (5, .l 5 0), (9, .v (.sc (.ptr 0 0))), (11, .v (.sc (.ptr 3 0))), (13, .l 13 0), (14, .v (.sc (.bool x0))), (46, .l 13 8)], lo := [(4, [I4 (x1), I4 (x2), I4 (x3), I4 (x4), I4 (x5), .g 5, I4 (x6), I4 (x7), I4 (x8), I4 (x9), I4 (A), I4 (B), I4 (C), I4 (D), .int .u64 (E)]), (5, [I4 (F), I4 (G), I4 (I), I4 (J), I4 (K), I4 (L), .bool (M), .bool (N)]), (13, [I4 (O), I4 (P), I4 (Q), I4 (R), I4 (T), I4 (U), .bool (V), .bool (W), I4 (X)])], h := [.box 69 [I4 (Y), I4 (x33), I4 (x34), I4 (x35), I4 (x36), .sc 1 (0) (1), I4 (x37), I4 (x38), I4 (x39), I4 (x40), I4 (x41), I4 (x42), I4 (x43), I4 (x44), .int .u64 (x45), I4 (x46)], .crow 51 [.sl 2 (1) (x47)], .row 55 QDy (x48), .box 33 [.g 4], .row 30 PKy (x49), .row 51 (.list 55 QDy) (x50)], n0 := 0, w := false } cX = (cond W (cX .ret { sl := [(4, .l 4 0), (5, .l 5 0), (6, .v (.sc (.bool (true)))), (7, .v (.sc (.g 0))), (8, .v (.sc (I4 (0))))], lo := [(4, [I4 (Y), I4 (x33), I4 (x34), I4 (x35), I4 (x36), .sc 1 (0) (1), I4 (x37), I4 (x38), I4 (x39), I4 (x40), I4 (x41), I4 (x42), I4 (x43), I4 (x44), .int .u64 (x45)]), (5, [I4 (O), I4 (P), I4 (Q), I4 (R), I4 (T), I4 (U), .bool (V), .bool (true)])], h := [.row 30 PKy (x49), .crow 51 [.sl 2 (1) (x47)], .row 55 QDy (x48)], n0 := 0, w := true }) (cX .ret { sl := [(4, .l 4 0), (5, .l 5 0), (6, .v (.sc (.bool (true)))), (7, .v (.sc (.g 0))), (8, .v (.sc (I4 (0))))], lo := [(4, [I4 (Y), I4 (x33), I4 (x34), I4 (x35), I4 (x36), .sc 1 (0) (1), I4 (x37), I4 (x38), I4 (x39), I4 (x40), I4 (x41), I4 (x42), I4 (x43), I4 (x44), .int .u64 (x45)]), (5, [I4 (O), I4 (P), I4 (Q), I4 (R), I4 (T), I4 (U), .bool (V), .bool (x0)])], h := [.row 30 PKy (x49), .crow 51 [.sl 2 (1) (x47)], .row 55 QDy (x48)], n0 := 0, w := true })) := by kernel_rfl
theorem lLao (k : Nat) (x0 : Bool) (x1 x2 x3 x4 x5 x6 x7 x8 x9 A B C D E F G I J K L : Int) (M : Bool) (N : Bool) (O P Q R T U : Int) (V : Bool) (W : Bool) (X Y x33 x34 x35 x36 x37 x38 x39 x40 x41 x42 x43 x44 x45 x46 : Int) (x47 : Nat) (x48 : (List (PKt × Int))) (x49 : (List PKt)) (x50 : (List (List (PKt × Int)))) (r : (Bool × Int × Bool)) : Lao x0 x1 x2 x3 x4 x5 x6 x7 x8 x9 A B C D E F G I J K L M N O P Q R T U V W X Y x33 x34 x35 x36 x37 x38 x39 x40 x41 x42 x43 x44 x45 x46 x47 x48 x49 x50 = some r → zo Try.prog (tn25 14) (TM.evF Try.prog (tn25) dOk (k + 40)) dOk (k + 40) (zh Try.prog (tn0 14) 14 100) 1 100 { sl := [(4, .l 4 0), (5, .l 5 0), (9, .v (.sc (.ptr 0 0))), (11, .v (.sc (.ptr 3 0))), (13, .l 13 0), (14, .v (.sc (.bool x0))), (46, .l 13 8)], lo := [(4, [I4 (x1), I4 (x2), I4 (x3), I4 (x4), I4 (x5), .g 5, I4 (x6), I4 (x7), I4 (x8), I4 (x9), I4 (A), I4 (B), I4 (C), I4 (D), .int .u64 (E)]), (5, [I4 (F), I4 (G), I4 (I), I4 (J), I4 (K), I4 (L), .bool (M), .bool (N)]), (13, [I4 (O), I4 (P), I4 (Q), I4 (R), I4 (T), I4 (U), .bool (V), .bool (W), I4 (X)])], h := [.box 69 [I4 (Y), I4 (x33), I4 (x34), I4 (x35), I4 (x36), .sc 1 (0) (1), I4 (x37), I4 (x38), I4 (x39), I4 (x40), I4 (x41), I4 (x42), I4 (x43), I4 (x44), .int .u64 (x45), I4 (x46)], .crow 51 [.sl 2 (1) (x47)], .row 55 QDy (x48), .box 33 [.g 4], .row 30 PKy (x49), .row 51 (.list 55 QDy) (x50)], n0 := 0, w := false } (fun e s => some (e, s)) = some (xLao x0 x1 x2 x3 x4 x5 x6 x7 x8 x9 A B C D E F G I J K L M N O P Q R T U V W X Y x33 x34 x35 x36 x37 x38 x39 x40 x41 x42 x43 x44 x45 x46 x47 x48 x49 x50 r) := by
 rw [bLao]
 unfold Lao
 refine ze ?_ ?_
 intro h; cases h; rfl
 intro h; cases h; rfl
noncomputable def sLao : TellS := fun S => dCS 0 S fun y1 y2 y3 => dSt 4 y1 fun y5 l4 => dL 4 0 y5 <| dSt 5 l4 fun y7 l6 => dL 5 0 y7 <| dSs 9 l6 fun y9 l8 => yY 0 0 y9 <| dSs 11 l8 fun y11 l10 => yY 3 0 y11 <| dSt 13 l10 fun y13 l12 => dL 13 0 y13 <| dSs 14 l12 fun y15 l14 => zA y15 fun x0 => dSt 46 l14 fun y17 l16 => dL 13 8 y17 <| dE l16 <| dLo 4 y2 fun y18 l19 => dK y18 fun x1 l20 => dK l20 fun x2 l21 => dK l21 fun x3 l22 => dK l22 fun x4 l23 => dK l23 fun x5 l24 => dC l24 fun y25 l26 => dG 5 y25 <| dK l26 fun x6 l27 => dK l27 fun x7 l28 => dK l28 fun x8 l29 => dK l29 fun x9 l30 => dK l30 fun A l31 => dK l31 fun B l32 => dK l32 fun C l33 => dK l33 fun D l34 => dCI .u64 l34 fun E l35 => dE l35 <| dLo 5 l19 fun y36 l37 => dK y36 fun F l38 => dK l38 fun G l39 => dK l39 fun I l40 => dK l40 fun J l41 => dK l41 fun K l42 => dK l42 fun L l43 => dC l43 fun y44 l45 => zA y44 fun M => dC l45 fun y46 l47 => zA y46 fun N => dE l47 <| dLo 13 l37 fun y48 l49 => dK y48 fun O l50 => dK l50 fun P l51 => dK l51 fun Q l52 => dK l52 fun R l53 => dK l53 fun T l54 => dK l54 fun U l55 => dC l55 fun y56 l57 => zA y56 fun V => dC l57 fun y58 l59 => zA y58 fun W => dK l59 fun X l60 => dE l60 <| dE l49 <| dHB 69 y3 fun y62 l61 => dK y62 fun Y l63 => dK l63 fun x33 l64 => dK l64 fun x34 l65 => dK l65 fun x35 l66 => dK l66 fun x36 l67 => dC l67 fun y68 l69 => dSc 1 y68 fun y70 y71 => dN y70 0 <| dN y71 1 <| dK l69 fun x37 l72 => dK l72 fun x38 l73 => dK l73 fun x39 l74 => dK l74 fun x40 l75 => dK l75 fun x41 l76 => dK l76 fun x42 l77 => dK l77 fun x43 l78 => dK l78 fun x44 l79 => dCI .u64 l79 fun x45 l80 => dK l80 fun x46 l81 => dE l81 <| dC l61 fun y83 l82 => wt 51 y83 fun y84 => dC y84 fun y85 l86 => dSl 2 y85 fun y87 x47 => dN y87 1 <| dE l86 <| dHR 55 QDy l82 fun x48 l88 => dHB 33 l88 fun y90 l89 => dC y90 fun y91 l92 => dG 4 y91 <| dE l92 <| dHR 30 PKy l89 fun x49 l93 => dHR 51 (.list 55 QDy) l93 fun x50 l94 => dE l94 <|  some [(ok (Lao x0 x1 x2 x3 x4 x5 x6 x7 x8 x9 A B C D E F G I J K L M N O P Q R T U V W X Y x33 x34 x35 x36 x37 x38 x39 x40 x41 x42 x43 x44 x45 x46 x47 x48 x49 x50), .ret, { sl := [(4, .l 4 0), (5, .l 5 0), (6, .v (.sc (.bool ((val (Lao x0 x1 x2 x3 x4 x5 x6 x7 x8 x9 A B C D E F G I J K L M N O P Q R T U V W X Y x33 x34 x35 x36 x37 x38 x39 x40 x41 x42 x43 x44 x45 x46 x47 x48 x49 x50)).1)))), (7, .v (.sc (.g 0))), (8, .v (.sc (I4 ((val (Lao x0 x1 x2 x3 x4 x5 x6 x7 x8 x9 A B C D E F G I J K L M N O P Q R T U V W X Y x33 x34 x35 x36 x37 x38 x39 x40 x41 x42 x43 x44 x45 x46 x47 x48 x49 x50)).2.1))))], lo := [(4, [I4 (Y), I4 (x33), I4 (x34), I4 (x35), I4 (x36), .sc 1 (0) (1), I4 (x37), I4 (x38), I4 (x39), I4 (x40), I4 (x41), I4 (x42), I4 (x43), I4 (x44), .int .u64 (x45)]), (5, [I4 (O), I4 (P), I4 (Q), I4 (R), I4 (T), I4 (U), .bool (V), .bool ((val (Lao x0 x1 x2 x3 x4 x5 x6 x7 x8 x9 A B C D E F G I J K L M N O P Q R T U V W X Y x33 x34 x35 x36 x37 x38 x39 x40 x41 x42 x43 x44 x45 x46 x47 x48 x49 x50)).2.2)])], h := [.row 30 PKy (x49), .crow 51 [.sl 2 (1) (x47)], .row 55 QDy (x48)], n0 := 0, w := true })]
theorem wLao : zG Try.prog dOk base o25 t25 ((14, 100), sLao) := by
 refine ⟨(zh Try.prog (tn0 14) 14 100), 1, by kernel_rfl, ?_⟩
 intro S alts e S' h10 h2
 have h1 : sLao S = some alts := h10
 clear h10
 unfold sLao at h1
 replace h1 := yN h1; obtain ⟨_, _, _, rfl, h1⟩ := h1
 replace h1 := zd h1; obtain ⟨_, _, rfl, h1⟩ := h1
 replace h1 := dLq h1; obtain ⟨rfl, h1⟩ := h1
 replace h1 := zd h1; obtain ⟨_, _, rfl, h1⟩ := h1
 replace h1 := dLq h1; obtain ⟨rfl, h1⟩ := h1
 replace h1 := yf h1; obtain ⟨_, _, rfl, h1⟩ := h1
 replace h1 := yD h1; obtain ⟨rfl, h1⟩ := h1
 replace h1 := yf h1; obtain ⟨_, _, rfl, h1⟩ := h1
 replace h1 := yD h1; obtain ⟨rfl, h1⟩ := h1
 replace h1 := zd h1; obtain ⟨_, _, rfl, h1⟩ := h1
 replace h1 := dLq h1; obtain ⟨rfl, h1⟩ := h1
 replace h1 := yf h1; obtain ⟨_, _, rfl, h1⟩ := h1
 replace h1 := zr h1; obtain ⟨_, rfl, h1⟩ := h1
 replace h1 := zd h1; obtain ⟨_, _, rfl, h1⟩ := h1
 replace h1 := dLq h1; obtain ⟨rfl, h1⟩ := h1
 replace h1 := dEq h1; obtain ⟨rfl, h1⟩ := h1
 replace h1 := zQ h1; obtain ⟨_, _, rfl, h1⟩ := h1
 replace h1 := dJ5 h1; obtain ⟨_, _, _, _, _, _, rfl, h1⟩ := h1
 replace h1 := dCq h1; obtain ⟨_, _, rfl, h1⟩ := h1
 replace h1 := dGq h1; obtain ⟨rfl, h1⟩ := h1
 replace h1 := dJ9 h1; obtain ⟨_, _, _, _, _, _, _, _, _, _, rfl, h1⟩ := h1
 replace h1 := dEq h1; obtain ⟨rfl, h1⟩ := h1
 replace h1 := zQ h1; obtain ⟨_, _, rfl, h1⟩ := h1
 replace h1 := dJ6 h1; obtain ⟨_, _, _, _, _, _, _, rfl, h1⟩ := h1
 replace h1 := dCq h1; obtain ⟨_, _, rfl, h1⟩ := h1
 replace h1 := zr h1; obtain ⟨_, rfl, h1⟩ := h1
 replace h1 := dCq h1; obtain ⟨_, _, rfl, h1⟩ := h1
 replace h1 := zr h1; obtain ⟨_, rfl, h1⟩ := h1
 replace h1 := dEq h1; obtain ⟨rfl, h1⟩ := h1
 replace h1 := zQ h1; obtain ⟨_, _, rfl, h1⟩ := h1
 replace h1 := dJ6 h1; obtain ⟨_, _, _, _, _, _, _, rfl, h1⟩ := h1
 replace h1 := dCq h1; obtain ⟨_, _, rfl, h1⟩ := h1
 replace h1 := zr h1; obtain ⟨_, rfl, h1⟩ := h1
 replace h1 := dCq h1; obtain ⟨_, _, rfl, h1⟩ := h1
 replace h1 := zr h1; obtain ⟨_, rfl, h1⟩ := h1
 replace h1 := zC h1; obtain ⟨_, _, rfl, h1⟩ := h1
 replace h1 := dEq h1; obtain ⟨rfl, h1⟩ := h1
 replace h1 := dEq h1; obtain ⟨rfl, h1⟩ := h1
 replace h1 := xz h1; obtain ⟨_, _, rfl, h1⟩ := h1
 replace h1 := dJ5 h1; obtain ⟨_, _, _, _, _, _, rfl, h1⟩ := h1
 replace h1 := dCq h1; obtain ⟨_, _, rfl, h1⟩ := h1
 replace h1 := ZS h1; obtain ⟨_, _, rfl, h1⟩ := h1
 replace h1 := dNq h1; obtain ⟨rfl, h1⟩ := h1
 replace h1 := dNq h1; obtain ⟨rfl, h1⟩ := h1
 replace h1 := dJ9 h1; obtain ⟨_, _, _, _, _, _, _, _, _, _, rfl, h1⟩ := h1
 replace h1 := zC h1; obtain ⟨_, _, rfl, h1⟩ := h1
 replace h1 := dEq h1; obtain ⟨rfl, h1⟩ := h1
 replace h1 := dCq h1; obtain ⟨_, _, rfl, h1⟩ := h1
 replace h1 := xQ h1; obtain ⟨_, rfl, h1⟩ := h1
 replace h1 := dCq h1; obtain ⟨_, _, rfl, h1⟩ := h1
 replace h1 := dSlq h1; obtain ⟨_, _, rfl, h1⟩ := h1
 replace h1 := dNq h1; obtain ⟨rfl, h1⟩ := h1
 replace h1 := dEq h1; obtain ⟨rfl, h1⟩ := h1
 replace h1 := yE h1; obtain ⟨_, _, rfl, h1⟩ := h1
 replace h1 := xz h1; obtain ⟨_, _, rfl, h1⟩ := h1
 replace h1 := dCq h1; obtain ⟨_, _, rfl, h1⟩ := h1
 replace h1 := dGq h1; obtain ⟨rfl, h1⟩ := h1
 replace h1 := dEq h1; obtain ⟨rfl, h1⟩ := h1
 replace h1 := yE h1; obtain ⟨_, _, rfl, h1⟩ := h1
 replace h1 := yE h1; obtain ⟨_, _, rfl, h1⟩ := h1
 replace h1 := dEq h1; obtain ⟨rfl, h1⟩ := h1
 cases h1
 obtain ⟨hc0, rfl, rfl⟩ := zH h2
 exact ⟨0 + 40, (zy rfl).trans (lLao 0 _ _ _ _ _ _ _ _ _ _ _ _ _ _ _ _ _ _ _ _ _ _ _ _ _ _ _ _ _ _ _ _ _ _ _ _ _ _ _ _ _ _ _ _ _ _ _ _ _ _ _ _ (zk hc0))⟩
noncomputable def o26 : OrcT := (36, sv36) :: o25
noncomputable def t26 : TellT := ((14, 100), sLaq) :: ((14, 100), sLao) :: t25
noncomputable abbrev tn26 : FuncId → TAn := zj base o26 t26
theorem ok26 : TnOk Try.prog tn26 (mkA base) dOk := by
 have h0 : TnOk Try.prog (tn25) (mkA base) dOk := ok25
 have h1 := zM h0 h0 (p := (36, sv36)) wv36
 have h2 := zK h0 h1 (p := ((14, 100), sLao)) wLao
 have h3 := zK h0 h2 (p := ((14, 100), sLaq)) wLaq
 exact h3
noncomputable def Lae (x0 x1 x2 x3 x4 x5 x6 x7 x8 x9 A B C D E F G I J K L : Int) (M : Bool) (N : Bool) (O P Q R T U : Int) (V : Bool) (W : Bool) (X : Int) (Y : (List PKt)) (x33 x34 x35 x36 x37 x38 x39 x40 x41 x42 x43 x44 x45 x46 x47 : Int) (x48 : (List (PKt × Int))) (x49 : (List (List (PKt × Int)))) : Option (((List PKt) × Int × Int × Nat) ⊕ (Bool × Int × Int × Int × Bool × Nat)) := (cond (decide (Int.toNat (1 : Int) ≤ List.length x48)) (cond (decide (List.length x48 ≤ List.length x48)) (cond (ok (v37 (IntKind.wrap IntKind.i64 (x0 - X)) x33 x34 x35 x36 x37 x38 x39 x40 x41 x42 x43 x44 x45 x46 x47 (List.length x48 - Int.toNat (1 : Int)) x48)) (cond (val (v37 (IntKind.wrap IntKind.i64 (x0 - X)) x33 x34 x35 x36 x37 x38 x39 x40 x41 x42 x43 x44 x45 x46 x47 (List.length x48 - Int.toNat (1 : Int)) x48)).1 (cond (!V) (cond (ok (v36 O P Q R T U V W Y)) (some (.inl (val (v36 O P Q R T U V W Y), (val (v37 (IntKind.wrap IntKind.i64 (x0 - X)) x33 x34 x35 x36 x37 x38 x39 x40 x41 x42 x43 x44 x45 x46 x47 (List.length x48 - Int.toNat (1 : Int)) x48)).2.1, (val (v37 (IntKind.wrap IntKind.i64 (x0 - X)) x33 x34 x35 x36 x37 x38 x39 x40 x41 x42 x43 x44 x45 x46 x47 (List.length x48 - Int.toNat (1 : Int)) x48)).2.2, List.length x48 - Int.toNat (1 : Int)))) none) (cond (ok (Laq (val (v37 (IntKind.wrap IntKind.i64 (x0 - X)) x33 x34 x35 x36 x37 x38 x39 x40 x41 x42 x43 x44 x45 x46 x47 (List.length x48 - Int.toNat (1 : Int)) x48)).1 x1 x2 x3 x4 x5 x6 x7 x8 x9 A B C D E F G I J K L M N O P Q R T U V W X x33 x34 x35 x36 x37 (val (v37 (IntKind.wrap IntKind.i64 (x0 - X)) x33 x34 x35 x36 x37 x38 x39 x40 x41 x42 x43 x44 x45 x46 x47 (List.length x48 - Int.toNat (1 : Int)) x48)).2.1 (val (v37 (IntKind.wrap IntKind.i64 (x0 - X)) x33 x34 x35 x36 x37 x38 x39 x40 x41 x42 x43 x44 x45 x46 x47 (List.length x48 - Int.toNat (1 : Int)) x48)).2.2 x40 x41 x42 x43 x44 x45 x46 x47 (List.length x48 - Int.toNat (1 : Int)) x48 Y x49)) (some (.inr ((val (Laq (val (v37 (IntKind.wrap IntKind.i64 (x0 - X)) x33 x34 x35 x36 x37 x38 x39 x40 x41 x42 x43 x44 x45 x46 x47 (List.length x48 - Int.toNat (1 : Int)) x48)).1 x1 x2 x3 x4 x5 x6 x7 x8 x9 A B C D E F G I J K L M N O P Q R T U V W X x33 x34 x35 x36 x37 (val (v37 (IntKind.wrap IntKind.i64 (x0 - X)) x33 x34 x35 x36 x37 x38 x39 x40 x41 x42 x43 x44 x45 x46 x47 (List.length x48 - Int.toNat (1 : Int)) x48)).2.1 (val (v37 (IntKind.wrap IntKind.i64 (x0 - X)) x33 x34 x35 x36 x37 x38 x39 x40 x41 x42 x43 x44 x45 x46 x47 (List.length x48 - Int.toNat (1 : Int)) x48)).2.2 x40 x41 x42 x43 x44 x45 x46 x47 (List.length x48 - Int.toNat (1 : Int)) x48 Y x49)).1, (val (Laq (val (v37 (IntKind.wrap IntKind.i64 (x0 - X)) x33 x34 x35 x36 x37 x38 x39 x40 x41 x42 x43 x44 x45 x46 x47 (List.length x48 - Int.toNat (1 : Int)) x48)).1 x1 x2 x3 x4 x5 x6 x7 x8 x9 A B C D E F G I J K L M N O P Q R T U V W X x33 x34 x35 x36 x37 (val (v37 (IntKind.wrap IntKind.i64 (x0 - X)) x33 x34 x35 x36 x37 x38 x39 x40 x41 x42 x43 x44 x45 x46 x47 (List.length x48 - Int.toNat (1 : Int)) x48)).2.1 (val (v37 (IntKind.wrap IntKind.i64 (x0 - X)) x33 x34 x35 x36 x37 x38 x39 x40 x41 x42 x43 x44 x45 x46 x47 (List.length x48 - Int.toNat (1 : Int)) x48)).2.2 x40 x41 x42 x43 x44 x45 x46 x47 (List.length x48 - Int.toNat (1 : Int)) x48 Y x49)).2.1, (val (v37 (IntKind.wrap IntKind.i64 (x0 - X)) x33 x34 x35 x36 x37 x38 x39 x40 x41 x42 x43 x44 x45 x46 x47 (List.length x48 - Int.toNat (1 : Int)) x48)).2.1, (val (v37 (IntKind.wrap IntKind.i64 (x0 - X)) x33 x34 x35 x36 x37 x38 x39 x40 x41 x42 x43 x44 x45 x46 x47 (List.length x48 - Int.toNat (1 : Int)) x48)).2.2, (val (Laq (val (v37 (IntKind.wrap IntKind.i64 (x0 - X)) x33 x34 x35 x36 x37 x38 x39 x40 x41 x42 x43 x44 x45 x46 x47 (List.length x48 - Int.toNat (1 : Int)) x48)).1 x1 x2 x3 x4 x5 x6 x7 x8 x9 A B C D E F G I J K L M N O P Q R T U V W X x33 x34 x35 x36 x37 (val (v37 (IntKind.wrap IntKind.i64 (x0 - X)) x33 x34 x35 x36 x37 x38 x39 x40 x41 x42 x43 x44 x45 x46 x47 (List.length x48 - Int.toNat (1 : Int)) x48)).2.1 (val (v37 (IntKind.wrap IntKind.i64 (x0 - X)) x33 x34 x35 x36 x37 x38 x39 x40 x41 x42 x43 x44 x45 x46 x47 (List.length x48 - Int.toNat (1 : Int)) x48)).2.2 x40 x41 x42 x43 x44 x45 x46 x47 (List.length x48 - Int.toNat (1 : Int)) x48 Y x49)).2.2, List.length x48 - Int.toNat (1 : Int)))) none)) (cond (ok (Lao (val (v37 (IntKind.wrap IntKind.i64 (x0 - X)) x33 x34 x35 x36 x37 x38 x39 x40 x41 x42 x43 x44 x45 x46 x47 (List.length x48 - Int.toNat (1 : Int)) x48)).1 x1 x2 x3 x4 x5 x6 x7 x8 x9 A B C D E F G I J K L M N O P Q R T U V W X x33 x34 x35 x36 x37 (val (v37 (IntKind.wrap IntKind.i64 (x0 - X)) x33 x34 x35 x36 x37 x38 x39 x40 x41 x42 x43 x44 x45 x46 x47 (List.length x48 - Int.toNat (1 : Int)) x48)).2.1 (val (v37 (IntKind.wrap IntKind.i64 (x0 - X)) x33 x34 x35 x36 x37 x38 x39 x40 x41 x42 x43 x44 x45 x46 x47 (List.length x48 - Int.toNat (1 : Int)) x48)).2.2 x40 x41 x42 x43 x44 x45 x46 x47 (List.length x48 - Int.toNat (1 : Int)) x48 Y x49)) (some (.inr ((val (Lao (val (v37 (IntKind.wrap IntKind.i64 (x0 - X)) x33 x34 x35 x36 x37 x38 x39 x40 x41 x42 x43 x44 x45 x46 x47 (List.length x48 - Int.toNat (1 : Int)) x48)).1 x1 x2 x3 x4 x5 x6 x7 x8 x9 A B C D E F G I J K L M N O P Q R T U V W X x33 x34 x35 x36 x37 (val (v37 (IntKind.wrap IntKind.i64 (x0 - X)) x33 x34 x35 x36 x37 x38 x39 x40 x41 x42 x43 x44 x45 x46 x47 (List.length x48 - Int.toNat (1 : Int)) x48)).2.1 (val (v37 (IntKind.wrap IntKind.i64 (x0 - X)) x33 x34 x35 x36 x37 x38 x39 x40 x41 x42 x43 x44 x45 x46 x47 (List.length x48 - Int.toNat (1 : Int)) x48)).2.2 x40 x41 x42 x43 x44 x45 x46 x47 (List.length x48 - Int.toNat (1 : Int)) x48 Y x49)).1, (val (Lao (val (v37 (IntKind.wrap IntKind.i64 (x0 - X)) x33 x34 x35 x36 x37 x38 x39 x40 x41 x42 x43 x44 x45 x46 x47 (List.length x48 - Int.toNat (1 : Int)) x48)).1 x1 x2 x3 x4 x5 x6 x7 x8 x9 A B C D E F G I J K L M N O P Q R T U V W X x33 x34 x35 x36 x37 (val (v37 (IntKind.wrap IntKind.i64 (x0 - X)) x33 x34 x35 x36 x37 x38 x39 x40 x41 x42 x43 x44 x45 x46 x47 (List.length x48 - Int.toNat (1 : Int)) x48)).2.1 (val (v37 (IntKind.wrap IntKind.i64 (x0 - X)) x33 x34 x35 x36 x37 x38 x39 x40 x41 x42 x43 x44 x45 x46 x47 (List.length x48 - Int.toNat (1 : Int)) x48)).2.2 x40 x41 x42 x43 x44 x45 x46 x47 (List.length x48 - Int.toNat (1 : Int)) x48 Y x49)).2.1, (val (v37 (IntKind.wrap IntKind.i64 (x0 - X)) x33 x34 x35 x36 x37 x38 x39 x40 x41 x42 x43 x44 x45 x46 x47 (List.length x48 - Int.toNat (1 : Int)) x48)).2.1, (val (v37 (IntKind.wrap IntKind.i64 (x0 - X)) x33 x34 x35 x36 x37 x38 x39 x40 x41 x42 x43 x44 x45 x46 x47 (List.length x48 - Int.toNat (1 : Int)) x48)).2.2, (val (Lao (val (v37 (IntKind.wrap IntKind.i64 (x0 - X)) x33 x34 x35 x36 x37 x38 x39 x40 x41 x42 x43 x44 x45 x46 x47 (List.length x48 - Int.toNat (1 : Int)) x48)).1 x1 x2 x3 x4 x5 x6 x7 x8 x9 A B C D E F G I J K L M N O P Q R T U V W X x33 x34 x35 x36 x37 (val (v37 (IntKind.wrap IntKind.i64 (x0 - X)) x33 x34 x35 x36 x37 x38 x39 x40 x41 x42 x43 x44 x45 x46 x47 (List.length x48 - Int.toNat (1 : Int)) x48)).2.1 (val (v37 (IntKind.wrap IntKind.i64 (x0 - X)) x33 x34 x35 x36 x37 x38 x39 x40 x41 x42 x43 x44 x45 x46 x47 (List.length x48 - Int.toNat (1 : Int)) x48)).2.2 x40 x41 x42 x43 x44 x45 x46 x47 (List.length x48 - Int.toNat (1 : Int)) x48 Y x49)).2.2, List.length x48 - Int.toNat (1 : Int)))) none)) none) none) none)
noncomputable def xLae (x0 x1 x2 x3 x4 x5 x6 x7 x8 x9 A B C D E F G I J K L : Int) (M : Bool) (N : Bool) (O P Q R T U : Int) (V : Bool) (W : Bool) (X : Int) (Y : (List PKt)) (x33 x34 x35 x36 x37 x38 x39 x40 x41 x42 x43 x44 x45 x46 x47 : Int) (x48 : (List (PKt × Int))) (x49 : (List (List (PKt × Int)))) : (((List PKt) × Int × Int × Nat) ⊕ (Bool × Int × Int × Int × Bool × Nat)) → Ex × CS := fun r => match r with | .inl a0 => ((.exit 1), { sl := [(1, .v (.sc (I4 x0))), (4, .l 4 0), (5, .l 5 0), (9, .v (.sc (.ptr 2 0))), (11, .v (.sc (.ptr 0 0))), (12, .v (.sc (.fn 36 0 [none] [.ptr 0 0]))), (13, .l 13 0), (46, .l 13 8), (52, .l 13 0), (53, .l 13 6), (58, .l 13 0)], lo := [(4, [I4 (x1), I4 (x2), I4 (x3), I4 (x4), I4 (x5), .g 5, I4 (x6), I4 (x7), I4 (x8), I4 (x9), I4 (A), I4 (B), I4 (C), I4 (D), .int .u64 (E)]), (5, [I4 (F), I4 (G), I4 (I), I4 (J), I4 (K), I4 (L), .bool (M), .bool (N)])], h := [.box 33 [.g 1], .row 30 PKy (a0.1 : List PKt), .box 69 [I4 (x33), I4 (x34), I4 (x35), I4 (x36), I4 (x37), .sc 3 (0) (1), I4 (a0.2.1), I4 (a0.2.2.1), I4 (x40), I4 (x41), I4 (x42), I4 (x43), I4 (x44), I4 (x45), .int .u64 (x46), I4 (x47)], .crow 51 [.sl 4 (1) (a0.2.2.2)], .row 55 QDy (x48), .row 51 (.list 55 QDy) (x49)], n0 := 0, w := false }) | .inr b0 => (.ret, { sl := [(4, .l 4 0), (5, .l 5 0), (6, .v (.sc (.bool (b0.1)))), (7, .v (.sc (.g 0))), (8, .v (.sc (I4 (b0.2.1))))], lo := [(4, [I4 (x33), I4 (x34), I4 (x35), I4 (x36), I4 (x37), .sc 1 (0) (1), I4 (b0.2.2.1), I4 (b0.2.2.2.1), I4 (x40), I4 (x41), I4 (x42), I4 (x43), I4 (x44), I4 (x45), .int .u64 (x46)]), (5, [I4 (O), I4 (P), I4 (Q), I4 (R), I4 (T), I4 (U), .bool (V), .bool (b0.2.2.2.2.1)])], h := [.row 30 PKy (Y), .crow 51 [.sl 2 (1) (b0.2.2.2.2.2)], .row 55 QDy (x48)], n0 := 0, w := true })
theorem bLae (k : Nat) (cX : Ex → CS → Option (Ex × CS)) (x0 x1 x2 x3 x4 x5 x6 x7 x8 x9 A B C D E F G I J K L : Int) (M : Bool) (N : Bool) (O P Q R T U : Int) (V : Bool) (W : Bool) (X : Int) (Y : (List PKt)) (x33 x34 x35 x36 x37 x38 x39 x40 x41 x42 x43 x44 x45 x46 x47 : Int) (x48 : (List (PKt × Int))) (x49 : (List (List (PKt × Int)))) : zo Try.prog (tn26 14) (TM.evF Try.prog (tn26) dOk (k + 40)) dOk (k + 40) (zh Try.prog (tn0 14) 14 68) 1 68 { sl := [(1, .v (.sc (I4 x0))), (4, .l 4 0), (5, .l 5 0), (9, .v (.sc (.ptr 2 0))), (11, .v (.sc (.ptr 0 0))), (12, .v (.sc (.fn 36 0 [none] [.ptr 0 0]))), (13, .l 13 0)], lo := [(4, [I4 (x1), I4 (x2), I4 (x3), I4 (x4), I4 (x5), .g 5, I4 (x6), I4 (x7), I4 (x8), I4 (x9), I4 (A), I4 (B), I4 (C), I4 (D), .int .u64 (E)]), (5, [I4 (F), I4 (G), I4 (I), I4 (J), I4 (K), I4 (L), .bool (M), .bool (N)]), (13, [I4 (O), I4 (P), I4 (Q), I4 (R), I4 (T), I4 (U), .bool (V), .bool (W), I4 (X)])], h := [.box 33 [.g 1], .row 30 PKy (Y), .box 69 [I4 (x33), I4 (x34), I4 (x35), I4 (x36), I4 (x37), .sc 3 (0) (1), I4 (x38), I4 (x39), I4 (x40), I4 (x41), I4 (x42), I4 (x43), I4 (x44), I4 (x45), .int .u64 (x46), I4 (x47)], .crow 51 [.g 4], .row 55 QDy (x48), .row 51 (.list 55 QDy) (x49)], n0 := 0, w := false } cX = (cond (decide (Int.toNat (1 : Int) ≤ List.length x48)) (cond (decide (List.length x48 ≤ List.length x48)) (cond (decide (List.length x48 ≤ List.length x48)) (cond (ok (v37 (IntKind.wrap IntKind.i64 (x0 - X)) x33 x34 x35 x36 x37 x38 x39 x40 x41 x42 x43 x44 x45 x46 x47 (List.length x48 - Int.toNat (1 : Int)) x48)) (cond (val (v37 (IntKind.wrap IntKind.i64 (x0 - X)) x33 x34 x35 x36 x37 x38 x39 x40 x41 x42 x43 x44 x45 x46 x47 (List.length x48 - Int.toNat (1 : Int)) x48)).1 (cond (!V) (cond (ok (v36 O P Q R T U V W Y)) (cX (.exit 1) { sl := [(1, .v (.sc (I4 x0))), (4, .l 4 0), (5, .l 5 0), (9, .v (.sc (.ptr 2 0))), (11, .v (.sc (.ptr 0 0))), (12, .v (.sc (.fn 36 0 [none] [.ptr 0 0]))), (13, .l 13 0), (46, .l 13 8), (52, .l 13 0), (53, .l 13 6), (58, .l 13 0)], lo := [(4, [I4 (x1), I4 (x2), I4 (x3), I4 (x4), I4 (x5), .g 5, I4 (x6), I4 (x7), I4 (x8), I4 (x9), I4 (A), I4 (B), I4 (C), I4 (D), .int .u64 (E)]), (5, [I4 (F), I4 (G), I4 (I), I4 (J), I4 (K), I4 (L), .bool (M), .bool (N)])], h := [.box 33 [.g 1], .row 30 PKy (val (v36 O P Q R T U V W Y) : List PKt), .box 69 [I4 (x33), I4 (x34), I4 (x35), I4 (x36), I4 (x37), .sc 3 (0) (1), I4 (val (v37 (IntKind.wrap IntKind.i64 (x0 - X)) x33 x34 x35 x36 x37 x38 x39 x40 x41 x42 x43 x44 x45 x46 x47 (List.length x48 - Int.toNat (1 : Int)) x48)).2.1, I4 (val (v37 (IntKind.wrap IntKind.i64 (x0 - X)) x33 x34 x35 x36 x37 x38 x39 x40 x41 x42 x43 x44 x45 x46 x47 (List.length x48 - Int.toNat (1 : Int)) x48)).2.2, I4 (x40), I4 (x41), I4 (x42), I4 (x43), I4 (x44), I4 (x45), .int .u64 (x46), I4 (x47)], .crow 51 [.sl 4 (1) (List.length x48 - Int.toNat (1 : Int))], .row 55 QDy (x48), .row 51 (.list 55 QDy) (x49)], n0 := 0, w := false }) none) (cond (ok (Laq (val (v37 (IntKind.wrap IntKind.i64 (x0 - X)) x33 x34 x35 x36 x37 x38 x39 x40 x41 x42 x43 x44 x45 x46 x47 (List.length x48 - Int.toNat (1 : Int)) x48)).1 x1 x2 x3 x4 x5 x6 x7 x8 x9 A B C D E F G I J K L M N O P Q R T U V W X x33 x34 x35 x36 x37 (val (v37 (IntKind.wrap IntKind.i64 (x0 - X)) x33 x34 x35 x36 x37 x38 x39 x40 x41 x42 x43 x44 x45 x46 x47 (List.length x48 - Int.toNat (1 : Int)) x48)).2.1 (val (v37 (IntKind.wrap IntKind.i64 (x0 - X)) x33 x34 x35 x36 x37 x38 x39 x40 x41 x42 x43 x44 x45 x46 x47 (List.length x48 - Int.toNat (1 : Int)) x48)).2.2 x40 x41 x42 x43 x44 x45 x46 x47 (List.length x48 - Int.toNat (1 : Int)) x48 Y x49)) (cX .ret { sl := [(4, .l 4 0), (5, .l 5 0), (6, .v (.sc (.bool (val (Laq (val (v37 (IntKind.wrap IntKind.i64 (x0 - X)) x33 x34 x35 x36 x37 x38 x39 x40 x41 x42 x43 x44 x45 x46 x47 (List.length x48 - Int.toNat (1 : Int)) x48)).1 x1 x2 x3 x4 x5 x6 x7 x8 x9 A B C D E F G I J K L M N O P Q R T U V W X x33 x34 x35 x36 x37 (val (v37 (IntKind.wrap IntKind.i64 (x0 - X)) x33 x34 x35 x36 x37 x38 x39 x40 x41 x42 x43 x44 x45 x46 x47 (List.length x48 - Int.toNat (1 : Int)) x48)).2.1 (val (v37 (IntKind.wrap IntKind.i64 (x0 - X)) x33 x34 x35 x36 x37 x38 x39 x40 x41 x42 x43 x44 x45 x46 x47 (List.length x48 - Int.toNat (1 : Int)) x48)).2.2 x40 x41 x42 x43 x44 x45 x46 x47 (List.length x48 - Int.toNat (1 : Int)) x48 Y x49)).1))), (7, .v (.sc (.g 0))), (8, .v (.sc (I4 (val (Laq (val (v37 (IntKind.wrap IntKind.i64 (x0 - X)) x33 x34 x35 x36 x37 x38 x39 x40 x41 x42 x43 x44 x45 x46 x47 (List.length x48 - Int.toNat (1 : Int)) x48)).1 x1 x2 x3 x4 x5 x6 x7 x8 x9 A B C D E F G I J K L M N O P Q R T U V W X x33 x34 x35 x36 x37 (val (v37 (IntKind.wrap IntKind.i64 (x0 - X)) x33 x34 x35 x36 x37 x38 x39 x40 x41 x42 x43 x44 x45 x46 x47 (List.length x48 - Int.toNat (1 : Int)) x48)).2.1 (val (v37 (IntKind.wrap IntKind.i64 (x0 - X)) x33 x34 x35 x36 x37 x38 x39 x40 x41 x42 x43 x44 x45 x46 x47 (List.length x48 - Int.toNat (1 : Int)) x48)).2.2 x40 x41 x42 x43 x44 x45 x46 x47 (List.length x48 - Int.toNat (1 : Int)) x48 Y x49)).2.1)))], lo := [(4, [I4 (x33), I4 (x34), I4 (x35), I4 (x36), I4 (x37), .sc 1 (0) (1), I4 (val (v37 (IntKind.wrap IntKind.i64 (x0 - X)) x33 x34 x35 x36 x37 x38 x39 x40 x41 x42 x43 x44 x45 x46 x47 (List.length x48 - Int.toNat (1 : Int)) x48)).2.1, I4 (val (v37 (IntKind.wrap IntKind.i64 (x0 - X)) x33 x34 x35 x36 x37 x38 x39 x40 x41 x42 x43 x44 x45 x46 x47 (List.length x48 - Int.toNat (1 : Int)) x48)).2.2, I4 (x40), I4 (x41), I4 (x42), I4 (x43), I4 (x44), I4 (x45), .int .u64 (x46)]), (5, [I4 (O), I4 (P), I4 (Q), I4 (R), I4 (T), I4 (U), .bool (V), .bool (val (Laq (val (v37 (IntKind.wrap IntKind.i64 (x0 - X)) x33 x34 x35 x36 x37 x38 x39 x40 x41 x42 x43 x44 x45 x46 x47 (List.length x48 - Int.toNat (1 : Int)) x48)).1 x1 x2 x3 x4 x5 x6 x7 x8 x9 A B C D E F G I J K L M N O P Q R T U V W X x33 x34 x35 x36 x37 (val (v37 (IntKind.wrap IntKind.i64 (x0 - X)) x33 x34 x35 x36 x37 x38 x39 x40 x41 x42 x43 x44 x45 x46 x47 (List.length x48 - Int.toNat (1 : Int)) x48)).2.1 (val (v37 (IntKind.wrap IntKind.i64 (x0 - X)) x33 x34 x35 x36 x37 x38 x39 x40 x41 x42 x43 x44 x45 x46 x47 (List.length x48 - Int.toNat (1 : Int)) x48)).2.2 x40 x41 x42 x43 x44 x45 x46 x47 (List.length x48 - Int.toNat (1 : Int)) x48 Y x49)).2.2])], h := [.row 30 PKy (Y), .crow 51 [.sl 2 (1) (List.length x48 - Int.toNat (1 : Int))], .row 55 QDy (x48)], n0 := 0, w := true }) none)) (cond (ok (Lao (val (v37 (IntKind.wrap IntKind.i64 (x0 - X)) x33 x34 x35 x36 x37 x38 x39 x40 x41 x42 x43 x44 x45 x46 x47 (List.length x48 - Int.toNat (1 : Int)) x48)).1 x1 x2 x3 x4 x5 x6 x7 x8 x9 A B C D E F G I J K L M N O P Q R T U V W X x33 x34 x35 x36 x37 (val (v37 (IntKind.wrap IntKind.i64 (x0 - X)) x33 x34 x35 x36 x37 x38 x39 x40 x41 x42 x43 x44 x45 x46 x47 (List.length x48 - Int.toNat (1 : Int)) x48)).2.1 (val (v37 (IntKind.wrap IntKind.i64 (x0 - X)) x33 x34 x35 x36 x37 x38 x39 x40 x41 x42 x43 x44 x45 x46 x47 (List.length x48 - Int.toNat (1 : Int)) x48)).2.2 x40 x41 x42 x43 x44 x45 x46 x47 (List.length x48 - Int.toNat (1 : Int)) x48 Y x49)) (cX .ret { sl := [(4, .l 4 0), (5, .l 5 0), (6, .v (.sc (.bool (val (Lao (val (v37 (IntKind.wrap IntKind.i64 (x0 - X)) x33 x34 x35 x36 x37 x38 x39 x40 x41 x42 x43 x44 x45 x46 x47 (List.length x48 - Int.toNat (1 : Int)) x48)).1 x1 x2 x3 x4 x5 x6 x7 x8 x9 A B C D E F G I J K L M N O P Q R T U V W X x33 x34 x35 x36 x37 (val (v37 (IntKind.wrap IntKind.i64 (x0 - X)) x33 x34 x35 x36 x37 x38 x39 x40 x41 x42 x43 x44 x45 x46 x47 (List.length x48 - Int.toNat (1 : Int)) x48)).2.1 (val (v37 (IntKind.wrap IntKind.i64 (x0 - X)) x33 x34 x35 x36 x37 x38 x39 x40 x41 x42 x43 x44 x45 x46 x47 (List.length x48 - Int.toNat (1 : Int)) x48)).2.2 x40 x41 x42 x43 x44 x45 x46 x47 (List.length x48 - Int.toNat (1 : Int)) x48 Y x49)).1))), (7, .v (.sc (.g 0))), (8, .v (.sc (I4 (val (Lao (val (v37 (IntKind.wrap IntKind.i64 (x0 - X)) x33 x34 x35 x36 x37 x38 x39 x40 x41 x42 x43 x44 x45 x46 x47 (List.length x48 - Int.toNat (1 : Int)) x48)).1 x1 x2 x3 x4 x5 x6 x7 x8 x9 A B C D E F G I J K L M N O P Q R T U V W X x33 x34 x35 x36 x37 (val (v37 (IntKind.wrap IntKind.i64 (x0 - X)) x33 x34 x35 x36 x37 x38 x39 x40 x41 x42 x43 x44 x45 x46 x47 (List.length x48 - Int.toNat (1 : Int)) x48)).2.1 (val (v37 (IntKind.wrap IntKind.i64 (x0 - X)) x33 x34 x35 x36 x37 x38 x39 x40 x41 x42 x43 x44 x45 x46 x47 (List.length x48 - Int.toNat (1 : Int)) x48)).2.2 x40 x41 x42 x43 x44 x45 x46 x47 (List.length x48 - Int.toNat (1 : Int)) x48 Y x49)).2.1)))], lo := [(4, [I4 (x33), I4 (x34), I4 (x35), I4 (x36), I4 (x37), .sc 1 (0) (1), I4 (val (v37 (IntKind.wrap IntKind.i64 (x0 - X)) x33 x34 x35 x36 x37 x38 x39 x40 x41 x42 x43 x44 x45 x46 x47 (List.length x48 - Int.toNat (1 : Int)) x48)).2.1, I4 (val (v37 (IntKind.wrap IntKind.i64 (x0 - X)) x33 x34 x35 x36 x37 x38 x39 x40 x41 x42 x43 x44 x45 x46 x47 (List.length x48 - Int.toNat (1 : Int)) x48)).2.2, I4 (x40), I4 (x41), I4 (x42), I4 (x43), I4 (x44), I4 (x45), .int .u64 (x46)]), (5, [I4 (O), I4 (P), I4 (Q), I4 (R), I4 (T), I4 (U), .bool (V), .bool (val (Lao (val (v37 (IntKind.wrap IntKind.i64 (x0 - X)) x33 x34 x35 x36 x37 x38 x39 x40 x41 x42 x43 x44 x45 x46 x47 (List.length x48 - Int.toNat (1 : Int)) x48)).1 x1 x2 x3 x4 x5 x6 x7 x8 x9 A B C D E F G I J K L M N O P Q R T U V W X x33 x34 x35 x36 x37 (val (v37 (IntKind.wrap IntKind.i64 (x0 - X)) x33 x34 x35 x36 x37 x38 x39 x40 x41 x42 x43 x44 x45 x46 x47 (List.length x48 - Int.toNat (1 : Int)) x48)).2.1 (val (v37 (IntKind.wrap IntKind.i64 (x0 - X)) x33 x34 x35 x36 x37 x38 x39 x40 x41 x42 x43 x44 x45 x46 x47 (List.length x48 - Int.toNat (1 : Int)) x48)).2.2 x40 x41 x42 x43 x44 x45 x46 x47 (List.length x48 - Int.toNat (1 : Int)) x48 Y x49)).2.2])], h := [.row 30 PKy (Y), .crow 51 [.sl 2 (1) (List.length x48 - Int.toNat (1 : Int))], .row 55 QDy (x48)], n0 := 0, w := true }) none)) none) none) none) none) := by kernel_rfl
theorem lLae (k : Nat) (x0 x1 x2 x3 x4 x5 x6 x7 x8 x9 A B C D E F G I J K L : Int) (M : Bool) (N : Bool) (O P Q R T U : Int) (V : Bool) (W : Bool) (X : Int) (Y : (List PKt)) (x33 x34 x35 x36 x37 x38 x39 x40 x41 x42 x43 x44 x45 x46 x47 : Int) (x48 : (List (PKt × Int))) (x49 : (List (List (PKt × Int)))) (r : (((List PKt) × Int × Int × Nat) ⊕ (Bool × Int × Int × Int × Bool × Nat))) : Lae x0 x1 x2 x3 x4 x5 x6 x7 x8 x9 A B C D E F G I J K L M N O P Q R T U V W X Y x33 x34 x35 x36 x37 x38 x39 x40 x41 x42 x43 x44 x45 x46 x47 x48 x49 = some r → zo Try.prog (tn26 14) (TM.evF Try.prog (tn26) dOk (k + 40)) dOk (k + 40) (zh Try.prog (tn0 14) 14 68) 1 68 { sl := [(1, .v (.sc (I4 x0))), (4, .l 4 0), (5, .l 5 0), (9, .v (.sc (.ptr 2 0))), (11, .v (.sc (.ptr 0 0))), (12, .v (.sc (.fn 36 0 [none] [.ptr 0 0]))), (13, .l 13 0)], lo := [(4, [I4 (x1), I4 (x2), I4 (x3), I4 (x4), I4 (x5), .g 5, I4 (x6), I4 (x7), I4 (x8), I4 (x9), I4 (A), I4 (B), I4 (C), I4 (D), .int .u64 (E)]), (5, [I4 (F), I4 (G), I4 (I), I4 (J), I4 (K), I4 (L), .bool (M), .bool (N)]), (13, [I4 (O), I4 (P), I4 (Q), I4 (R), I4 (T), I4 (U), .bool (V), .bool (W), I4 (X)])], h := [.box 33 [.g 1], .row 30 PKy (Y), .box 69 [I4 (x33), I4 (x34), I4 (x35), I4 (x36), I4 (x37), .sc 3 (0) (1), I4 (x38), I4 (x39), I4 (x40), I4 (x41), I4 (x42), I4 (x43), I4 (x44), I4 (x45), .int .u64 (x46), I4 (x47)], .crow 51 [.g 4], .row 55 QDy (x48), .row 51 (.list 55 QDy) (x49)], n0 := 0, w := false } (fun e s => some (e, s)) = some (xLae x0 x1 x2 x3 x4 x5 x6 x7 x8 x9 A B C D E F G I J K L M N O P Q R T U V W X Y x33 x34 x35 x36 x37 x38 x39 x40 x41 x42 x43 x44 x45 x46 x47 x48 x49 r) := by
 rw [bLae]
 unfold Lae
 cases (decide (Int.toNat (1 : Int) ≤ List.length x48)) with
 | true =>
  cases (decide (List.length x48 ≤ List.length x48)) with
  | true =>
   cases (ok (v37 (IntKind.wrap IntKind.i64 (x0 - X)) x33 x34 x35 x36 x37 x38 x39 x40 x41 x42 x43 x44 x45 x46 x47 (List.length x48 - Int.toNat (1 : Int)) x48)) with
   | true =>
    cases (val (v37 (IntKind.wrap IntKind.i64 (x0 - X)) x33 x34 x35 x36 x37 x38 x39 x40 x41 x42 x43 x44 x45 x46 x47 (List.length x48 - Int.toNat (1 : Int)) x48)).1 with
    | true =>
     cases (!V) with
     | true =>
      cases (ok (v36 O P Q R T U V W Y)) with
      | true =>
       intro h; cases h; rfl
      | false =>
       intro h; cases h
     | false =>
      cases (ok (Laq true x1 x2 x3 x4 x5 x6 x7 x8 x9 A B C D E F G I J K L M N O P Q R T U V W X x33 x34 x35 x36 x37 (val (v37 (IntKind.wrap IntKind.i64 (x0 - X)) x33 x34 x35 x36 x37 x38 x39 x40 x41 x42 x43 x44 x45 x46 x47 (List.length x48 - Int.toNat (1 : Int)) x48)).2.1 (val (v37 (IntKind.wrap IntKind.i64 (x0 - X)) x33 x34 x35 x36 x37 x38 x39 x40 x41 x42 x43 x44 x45 x46 x47 (List.length x48 - Int.toNat (1 : Int)) x48)).2.2 x40 x41 x42 x43 x44 x45 x46 x47 (List.length x48 - Int.toNat (1 : Int)) x48 Y x49)) with
      | true =>
       intro h; cases h; rfl
      | false =>
       intro h; cases h
    | false =>
     cases (ok (Lao false x1 x2 x3 x4 x5 x6 x7 x8 x9 A B C D E F G I J K L M N O P Q R T U V W X x33 x34 x35 x36 x37 (val (v37 (IntKind.wrap IntKind.i64 (x0 - X)) x33 x34 x35 x36 x37 x38 x39 x40 x41 x42 x43 x44 x45 x46 x47 (List.length x48 - Int.toNat (1 : Int)) x48)).2.1 (val (v37 (IntKind.wrap IntKind.i64 (x0 - X)) x33 x34 x35 x36 x37 x38 x39 x40 x41 x42 x43 x44 x45 x46 x47 (List.length x48 - Int.toNat (1 : Int)) x48)).2.2 x40 x41 x42 x43 x44 x45 x46 x47 (List.length x48 - Int.toNat (1 : Int)) x48 Y x49)) with
     | true =>
      intro h; cases h; rfl
     | false =>
      intro h; cases h
   | false =>
    intro h; cases h
  | false =>
   intro h; cases h
 | false =>
  intro h; cases h
noncomputable def sLae : TellS := fun S => dCS 0 S fun y1 y2 y3 => dSI 1 .i64 y1 fun x0 l4 => dSt 4 l4 fun y6 l5 => dL 4 0 y6 <| dSt 5 l5 fun y8 l7 => dL 5 0 y8 <| dSs 9 l7 fun y10 l9 => yY 2 0 y10 <| dSs 11 l9 fun y12 l11 => yY 0 0 y12 <| dSs 12 l11 fun y14 l13 => dFn 36 0 [none] y14 fun y15 => dC y15 fun y16 l17 => yY 0 0 y16 <| dE l17 <| dSt 13 l13 fun y19 l18 => dL 13 0 y19 <| dE l18 <| dLo 4 y2 fun y20 l21 => dK y20 fun x1 l22 => dK l22 fun x2 l23 => dK l23 fun x3 l24 => dK l24 fun x4 l25 => dK l25 fun x5 l26 => dC l26 fun y27 l28 => dG 5 y27 <| dK l28 fun x6 l29 => dK l29 fun x7 l30 => dK l30 fun x8 l31 => dK l31 fun x9 l32 => dK l32 fun A l33 => dK l33 fun B l34 => dK l34 fun C l35 => dK l35 fun D l36 => dCI .u64 l36 fun E l37 => dE l37 <| dLo 5 l21 fun y38 l39 => dK y38 fun F l40 => dK l40 fun G l41 => dK l41 fun I l42 => dK l42 fun J l43 => dK l43 fun K l44 => dK l44 fun L l45 => dC l45 fun y46 l47 => zA y46 fun M => dC l47 fun y48 l49 => zA y48 fun N => dE l49 <| dLo 13 l39 fun y50 l51 => dK y50 fun O l52 => dK l52 fun P l53 => dK l53 fun Q l54 => dK l54 fun R l55 => dK l55 fun T l56 => dK l56 fun U l57 => dC l57 fun y58 l59 => zA y58 fun V => dC l59 fun y60 l61 => zA y60 fun W => dK l61 fun X l62 => dE l62 <| dE l51 <| dHB 33 y3 fun y64 l63 => dC y64 fun y65 l66 => dG 1 y65 <| dE l66 <| dHR 30 PKy l63 fun Y l67 => dHB 69 l67 fun y69 l68 => dK y69 fun x33 l70 => dK l70 fun x34 l71 => dK l71 fun x35 l72 => dK l72 fun x36 l73 => dK l73 fun x37 l74 => dC l74 fun y75 l76 => dSc 3 y75 fun y77 y78 => dN y77 0 <| dN y78 1 <| dK l76 fun x38 l79 => dK l79 fun x39 l80 => dK l80 fun x40 l81 => dK l81 fun x41 l82 => dK l82 fun x42 l83 => dK l83 fun x43 l84 => dK l84 fun x44 l85 => dK l85 fun x45 l86 => dCI .u64 l86 fun x46 l87 => dK l87 fun x47 l88 => dE l88 <| dC l68 fun y90 l89 => wt 51 y90 fun y91 => dC y91 fun y92 l93 => dG 4 y92 <| dE l93 <| dHR 55 QDy l89 fun x48 l94 => dHR 51 (.list 55 QDy) l94 fun x49 l95 => dE l95 <|  some [(isL (Lae x0 x1 x2 x3 x4 x5 x6 x7 x8 x9 A B C D E F G I J K L M N O P Q R T U V W X Y x33 x34 x35 x36 x37 x38 x39 x40 x41 x42 x43 x44 x45 x46 x47 x48 x49), (.exit 1), { sl := [(1, .v (.sc (I4 x0))), (4, .l 4 0), (5, .l 5 0), (9, .v (.sc (.ptr 2 0))), (11, .v (.sc (.ptr 0 0))), (12, .v (.sc (.fn 36 0 [none] [.ptr 0 0]))), (13, .l 13 0), (46, .l 13 8), (52, .l 13 0), (53, .l 13 6), (58, .l 13 0)], lo := [(4, [I4 (x1), I4 (x2), I4 (x3), I4 (x4), I4 (x5), .g 5, I4 (x6), I4 (x7), I4 (x8), I4 (x9), I4 (A), I4 (B), I4 (C), I4 (D), .int .u64 (E)]), (5, [I4 (F), I4 (G), I4 (I), I4 (J), I4 (K), I4 (L), .bool (M), .bool (N)])], h := [.box 33 [.g 1], .row 30 PKy ((zb (Lae x0 x1 x2 x3 x4 x5 x6 x7 x8 x9 A B C D E F G I J K L M N O P Q R T U V W X Y x33 x34 x35 x36 x37 x38 x39 x40 x41 x42 x43 x44 x45 x46 x47 x48 x49)).1 : List PKt), .box 69 [I4 (x33), I4 (x34), I4 (x35), I4 (x36), I4 (x37), .sc 3 (0) (1), I4 ((zb (Lae x0 x1 x2 x3 x4 x5 x6 x7 x8 x9 A B C D E F G I J K L M N O P Q R T U V W X Y x33 x34 x35 x36 x37 x38 x39 x40 x41 x42 x43 x44 x45 x46 x47 x48 x49)).2.1), I4 ((zb (Lae x0 x1 x2 x3 x4 x5 x6 x7 x8 x9 A B C D E F G I J K L M N O P Q R T U V W X Y x33 x34 x35 x36 x37 x38 x39 x40 x41 x42 x43 x44 x45 x46 x47 x48 x49)).2.2.1), I4 (x40), I4 (x41), I4 (x42), I4 (x43), I4 (x44), I4 (x45), .int .u64 (x46), I4 (x47)], .crow 51 [.sl 4 (1) ((zb (Lae x0 x1 x2 x3 x4 x5 x6 x7 x8 x9 A B C D E F G I J K L M N O P Q R T U V W X Y x33 x34 x35 x36 x37 x38 x39 x40 x41 x42 x43 x44 x45 x46 x47 x48 x49)).2.2.2)], .row 55 QDy (x48), .row 51 (.list 55 QDy) (x49)], n0 := 0, w := false }), (ok (za (Lae x0 x1 x2 x3 x4 x5 x6 x7 x8 x9 A B C D E F G I J K L M N O P Q R T U V W X Y x33 x34 x35 x36 x37 x38 x39 x40 x41 x42 x43 x44 x45 x46 x47 x48 x49)), .ret, { sl := [(4, .l 4 0), (5, .l 5 0), (6, .v (.sc (.bool ((val (za (Lae x0 x1 x2 x3 x4 x5 x6 x7 x8 x9 A B C D E F G I J K L M N O P Q R T U V W X Y x33 x34 x35 x36 x37 x38 x39 x40 x41 x42 x43 x44 x45 x46 x47 x48 x49))).1)))), (7, .v (.sc (.g 0))), (8, .v (.sc (I4 ((val (za (Lae x0 x1 x2 x3 x4 x5 x6 x7 x8 x9 A B C D E F G I J K L M N O P Q R T U V W X Y x33 x34 x35 x36 x37 x38 x39 x40 x41 x42 x43 x44 x45 x46 x47 x48 x49))).2.1))))], lo := [(4, [I4 (x33), I4 (x34), I4 (x35), I4 (x36), I4 (x37), .sc 1 (0) (1), I4 ((val (za (Lae x0 x1 x2 x3 x4 x5 x6 x7 x8 x9 A B C D E F G I J K L M N O P Q R T U V W X Y x33 x34 x35 x36 x37 x38 x39 x40 x41 x42 x43 x44 x45 x46 x47 x48 x49))).2.2.1), I4 ((val (za (Lae x0 x1 x2 x3 x4 x5 x6 x7 x8 x9 A B C D E F G I J K L M N O P Q R T U V W X Y x33 x34 x35 x36 x37 x38 x39 x40 x41 x42 x43 x44 x45 x46 x47 x48 x49))).2.2.2.1), I4 (x40), I4 (x41), I4 (x42), I4 (x43), I4 (x44), I4 (x45), .int .u64 (x46)]), (5, [I4 (O), I4 (P), I4 (Q), I4 (R), I4 (T), I4 (U), .bool (V), .bool ((val (za (Lae x0 x1 x2 x3 x4 x5 x6 x7 x8 x9 A B C D E F G I J K L M N O P Q R T U V W X Y x33 x34 x35 x36 x37 x38 x39 x40 x41 x42 x43 x44 x45 x46 x47 x48 x49))).2.2.2.2.1)])], h := [.row 30 PKy (Y), .crow 51 [.sl 2 (1) ((val (za (Lae x0 x1 x2 x3 x4 x5 x6 x7 x8 x9 A B C D E F G I J K L M N O P Q R T U V W X Y x33 x34 x35 x36 x37 x38 x39 x40 x41 x42 x43 x44 x45 x46 x47 x48 x49))).2.2.2.2.2)], .row 55 QDy (x48)], n0 := 0, w := true })]
theorem wLae : zG Try.prog dOk base o26 t26 ((14, 68), sLae) := by
 refine ⟨(zh Try.prog (tn0 14) 14 68), 1, by kernel_rfl, ?_⟩
 intro S alts e S' h10 h2
 have h1 : sLae S = some alts := h10
 clear h10
 unfold sLae at h1
 replace h1 := yN h1; obtain ⟨_, _, _, rfl, h1⟩ := h1
 replace h1 := xp h1; obtain ⟨_, _, rfl, h1⟩ := h1
 replace h1 := zd h1; obtain ⟨_, _, rfl, h1⟩ := h1
 replace h1 := dLq h1; obtain ⟨rfl, h1⟩ := h1
 replace h1 := zd h1; obtain ⟨_, _, rfl, h1⟩ := h1
 replace h1 := dLq h1; obtain ⟨rfl, h1⟩ := h1
 replace h1 := yf h1; obtain ⟨_, _, rfl, h1⟩ := h1
 replace h1 := yD h1; obtain ⟨rfl, h1⟩ := h1
 replace h1 := yf h1; obtain ⟨_, _, rfl, h1⟩ := h1
 replace h1 := yD h1; obtain ⟨rfl, h1⟩ := h1
 replace h1 := yf h1; obtain ⟨_, _, rfl, h1⟩ := h1
 replace h1 := Tf h1; obtain ⟨_, rfl, h1⟩ := h1
 replace h1 := dCq h1; obtain ⟨_, _, rfl, h1⟩ := h1
 replace h1 := yD h1; obtain ⟨rfl, h1⟩ := h1
 replace h1 := dEq h1; obtain ⟨rfl, h1⟩ := h1
 replace h1 := zd h1; obtain ⟨_, _, rfl, h1⟩ := h1
 replace h1 := dLq h1; obtain ⟨rfl, h1⟩ := h1
 replace h1 := dEq h1; obtain ⟨rfl, h1⟩ := h1
 replace h1 := zQ h1; obtain ⟨_, _, rfl, h1⟩ := h1
 replace h1 := dJ5 h1; obtain ⟨_, _, _, _, _, _, rfl, h1⟩ := h1
 replace h1 := dCq h1; obtain ⟨_, _, rfl, h1⟩ := h1
 replace h1 := dGq h1; obtain ⟨rfl, h1⟩ := h1
 replace h1 := dJ9 h1; obtain ⟨_, _, _, _, _, _, _, _, _, _, rfl, h1⟩ := h1
 replace h1 := dEq h1; obtain ⟨rfl, h1⟩ := h1
 replace h1 := zQ h1; obtain ⟨_, _, rfl, h1⟩ := h1
 replace h1 := dJ6 h1; obtain ⟨_, _, _, _, _, _, _, rfl, h1⟩ := h1
 replace h1 := dCq h1; obtain ⟨_, _, rfl, h1⟩ := h1
 replace h1 := zr h1; obtain ⟨_, rfl, h1⟩ := h1
 replace h1 := dCq h1; obtain ⟨_, _, rfl, h1⟩ := h1
 replace h1 := zr h1; obtain ⟨_, rfl, h1⟩ := h1
 replace h1 := dEq h1; obtain ⟨rfl, h1⟩ := h1
 replace h1 := zQ h1; obtain ⟨_, _, rfl, h1⟩ := h1
 replace h1 := dJ6 h1; obtain ⟨_, _, _, _, _, _, _, rfl, h1⟩ := h1
 replace h1 := dCq h1; obtain ⟨_, _, rfl, h1⟩ := h1
 replace h1 := zr h1; obtain ⟨_, rfl, h1⟩ := h1
 replace h1 := dCq h1; obtain ⟨_, _, rfl, h1⟩ := h1
 replace h1 := zr h1; obtain ⟨_, rfl, h1⟩ := h1
 replace h1 := zC h1; obtain ⟨_, _, rfl, h1⟩ := h1
 replace h1 := dEq h1; obtain ⟨rfl, h1⟩ := h1
 replace h1 := dEq h1; obtain ⟨rfl, h1⟩ := h1
 replace h1 := xz h1; obtain ⟨_, _, rfl, h1⟩ := h1
 replace h1 := dCq h1; obtain ⟨_, _, rfl, h1⟩ := h1
 replace h1 := dGq h1; obtain ⟨rfl, h1⟩ := h1
 replace h1 := dEq h1; obtain ⟨rfl, h1⟩ := h1
 replace h1 := yE h1; obtain ⟨_, _, rfl, h1⟩ := h1
 replace h1 := xz h1; obtain ⟨_, _, rfl, h1⟩ := h1
 replace h1 := dJ5 h1; obtain ⟨_, _, _, _, _, _, rfl, h1⟩ := h1
 replace h1 := dCq h1; obtain ⟨_, _, rfl, h1⟩ := h1
 replace h1 := ZS h1; obtain ⟨_, _, rfl, h1⟩ := h1
 replace h1 := dNq h1; obtain ⟨rfl, h1⟩ := h1
 replace h1 := dNq h1; obtain ⟨rfl, h1⟩ := h1
 replace h1 := dJ9 h1; obtain ⟨_, _, _, _, _, _, _, _, _, _, rfl, h1⟩ := h1
 replace h1 := zC h1; obtain ⟨_, _, rfl, h1⟩ := h1
 replace h1 := dEq h1; obtain ⟨rfl, h1⟩ := h1
 replace h1 := dCq h1; obtain ⟨_, _, rfl, h1⟩ := h1
 replace h1 := xQ h1; obtain ⟨_, rfl, h1⟩ := h1
 replace h1 := dCq h1; obtain ⟨_, _, rfl, h1⟩ := h1
 replace h1 := dGq h1; obtain ⟨rfl, h1⟩ := h1
 replace h1 := dEq h1; obtain ⟨rfl, h1⟩ := h1
 replace h1 := yE h1; obtain ⟨_, _, rfl, h1⟩ := h1
 replace h1 := yE h1; obtain ⟨_, _, rfl, h1⟩ := h1
 replace h1 := dEq h1; obtain ⟨rfl, h1⟩ := h1
 cases h1
 rcases yq h2 with ⟨hc0, rfl, rfl⟩ | h2
 · exact ⟨0 + 40, (zy rfl).trans (lLae 0 _ _ _ _ _ _ _ _ _ _ _ _ _ _ _ _ _ _ _ _ _ _ _ _ _ _ _ _ _ _ _ _ _ _ _ _ _ _ _ _ _ _ _ _ _ _ _ _ _ _ _ (yO hc0))⟩
 obtain ⟨hc1, rfl, rfl⟩ := zH h2
 exact ⟨0 + 40, (zy rfl).trans (lLae 0 _ _ _ _ _ _ _ _ _ _ _ _ _ _ _ _ _ _ _ _ _ _ _ _ _ _ _ _ _ _ _ _ _ _ _ _ _ _ _ _ _ _ _ _ _ _ _ _ _ _ _ (yp (zk hc1)))⟩
noncomputable def o27 : OrcT := o26
noncomputable def t27 : TellT := ((14, 68), sLae) :: t26
noncomputable abbrev tn27 : FuncId → TAn := zj base o27 t27
theorem ok27 : TnOk Try.prog tn27 (mkA base) dOk := by
 have h0 : TnOk Try.prog (tn26) (mkA base) dOk := ok26
 have h1 := zK h0 h0 (p := ((14, 68), sLae)) wLae
 exact h1
end Go.Proofs.Ythbinbcgjhnijaa
