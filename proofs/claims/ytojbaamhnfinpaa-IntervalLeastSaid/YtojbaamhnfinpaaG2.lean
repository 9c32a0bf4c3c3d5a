/- What some functions and loops come to: printed and checked. Written by a program of ours. -/
import Derived.Test.YtojbaamhnfinpaaG1
set_option linter.all false
set_option linter.constructorNameAsVariable false
set_option linter.unnecessarySimpa false
set_option linter.unusedSimpArgs false
set_option linter.unusedVariables false
set_option maxRecDepth 1000000
set_option linter.unusedVariables false
set_option maxHeartbeats 4000000
namespace Go.Proofs.Ytojbaamhnfinpaa
open Go Go.AM Go.TM Go.Proofs
/-- queuelablaw06.IntervalExchanged: the piece 44 -/
def L8_44_0 (x0 : Int) (x1 : Int) (x2 : Bool) (x3 : Int) (x4 : Int) (x5 : Int) (x6 : Int) (x7 : Int) (x8 : Int) (x9 : Int) (x10 : Int) : Option (Bool ⊕ Bool) := (cond (ok (v15 x3 x4 x5 x6)) (cond (ok (v15 x5 x6 x3 x4)) (cond (x2) (cond (Prod.fst (val (v15 x3 x4 x5 x6)) == Prod.fst (val (v15 x5 x6 x3 x4)) && (Prod.fst (Prod.snd (val (v15 x3 x4 x5 x6))) == Prod.fst (Prod.snd (val (v15 x5 x6 x3 x4))) && true)) (cond (isL (L8_68_0 x0 x1 (Prod.snd (Prod.snd (val (v15 x3 x4 x5 x6))) == Prod.snd (Prod.snd (val (v15 x5 x6 x3 x4)))) x3 x4 x5 x6 (Prod.fst (val (v15 x3 x4 x5 x6))) (Prod.fst (Prod.snd (val (v15 x3 x4 x5 x6)))) (Prod.fst (val (v15 x5 x6 x3 x4))) (Prod.fst (Prod.snd (val (v15 x5 x6 x3 x4)))))) (some (.inl (getL (L8_68_0 x0 x1 (Prod.snd (Prod.snd (val (v15 x3 x4 x5 x6))) == Prod.snd (Prod.snd (val (v15 x5 x6 x3 x4)))) x3 x4 x5 x6 (Prod.fst (val (v15 x3 x4 x5 x6))) (Prod.fst (Prod.snd (val (v15 x3 x4 x5 x6)))) (Prod.fst (val (v15 x5 x6 x3 x4))) (Prod.fst (Prod.snd (val (v15 x5 x6 x3 x4)))))))) (cond (ok (getR (L8_68_0 x0 x1 (Prod.snd (Prod.snd (val (v15 x3 x4 x5 x6))) == Prod.snd (Prod.snd (val (v15 x5 x6 x3 x4)))) x3 x4 x5 x6 (Prod.fst (val (v15 x3 x4 x5 x6))) (Prod.fst (Prod.snd (val (v15 x3 x4 x5 x6)))) (Prod.fst (val (v15 x5 x6 x3 x4))) (Prod.fst (Prod.snd (val (v15 x5 x6 x3 x4))))))) (some (.inr (val (getR (L8_68_0 x0 x1 (Prod.snd (Prod.snd (val (v15 x3 x4 x5 x6))) == Prod.snd (Prod.snd (val (v15 x5 x6 x3 x4)))) x3 x4 x5 x6 (Prod.fst (val (v15 x3 x4 x5 x6))) (Prod.fst (Prod.snd (val (v15 x3 x4 x5 x6)))) (Prod.fst (val (v15 x5 x6 x3 x4))) (Prod.fst (Prod.snd (val (v15 x5 x6 x3 x4))))))))) none)) (cond (isL (L8_68_0 x0 x1 false x3 x4 x5 x6 (Prod.fst (val (v15 x3 x4 x5 x6))) (Prod.fst (Prod.snd (val (v15 x3 x4 x5 x6)))) (Prod.fst (val (v15 x5 x6 x3 x4))) (Prod.fst (Prod.snd (val (v15 x5 x6 x3 x4)))))) (some (.inl (getL (L8_68_0 x0 x1 false x3 x4 x5 x6 (Prod.fst (val (v15 x3 x4 x5 x6))) (Prod.fst (Prod.snd (val (v15 x3 x4 x5 x6)))) (Prod.fst (val (v15 x5 x6 x3 x4))) (Prod.fst (Prod.snd (val (v15 x5 x6 x3 x4)))))))) (cond (ok (getR (L8_68_0 x0 x1 false x3 x4 x5 x6 (Prod.fst (val (v15 x3 x4 x5 x6))) (Prod.fst (Prod.snd (val (v15 x3 x4 x5 x6)))) (Prod.fst (val (v15 x5 x6 x3 x4))) (Prod.fst (Prod.snd (val (v15 x5 x6 x3 x4))))))) (some (.inr (val (getR (L8_68_0 x0 x1 false x3 x4 x5 x6 (Prod.fst (val (v15 x3 x4 x5 x6))) (Prod.fst (Prod.snd (val (v15 x3 x4 x5 x6)))) (Prod.fst (val (v15 x5 x6 x3 x4))) (Prod.fst (Prod.snd (val (v15 x5 x6 x3 x4))))))))) none))) (cond (isL (L8_68_0 x0 x1 false x3 x4 x5 x6 (Prod.fst (val (v15 x3 x4 x5 x6))) (Prod.fst (Prod.snd (val (v15 x3 x4 x5 x6)))) (Prod.fst (val (v15 x5 x6 x3 x4))) (Prod.fst (Prod.snd (val (v15 x5 x6 x3 x4)))))) (some (.inl (getL (L8_68_0 x0 x1 false x3 x4 x5 x6 (Prod.fst (val (v15 x3 x4 x5 x6))) (Prod.fst (Prod.snd (val (v15 x3 x4 x5 x6)))) (Prod.fst (val (v15 x5 x6 x3 x4))) (Prod.fst (Prod.snd (val (v15 x5 x6 x3 x4)))))))) (cond (ok (getR (L8_68_0 x0 x1 false x3 x4 x5 x6 (Prod.fst (val (v15 x3 x4 x5 x6))) (Prod.fst (Prod.snd (val (v15 x3 x4 x5 x6)))) (Prod.fst (val (v15 x5 x6 x3 x4))) (Prod.fst (Prod.snd (val (v15 x5 x6 x3 x4))))))) (some (.inr (val (getR (L8_68_0 x0 x1 false x3 x4 x5 x6 (Prod.fst (val (v15 x3 x4 x5 x6))) (Prod.fst (Prod.snd (val (v15 x3 x4 x5 x6)))) (Prod.fst (val (v15 x5 x6 x3 x4))) (Prod.fst (Prod.snd (val (v15 x5 x6 x3 x4))))))))) none))) none) none)
def xL8_44_0 (x0 : Int) (x1 : Int) (x2 : Bool) (x3 : Int) (x4 : Int) (x5 : Int) (x6 : Int) (x7 : Int) (x8 : Int) (x9 : Int) (x10 : Int) : (Bool ⊕ Bool) → Ex × CS := fun r => match r with | .inl a0 => (.ret, { sl := [(4, .l 4 0), (5, .l 5 0), (8, .v (.sc (.bool (a0)))), (10, .l 10 0), (12, .l 12 0)], lo := [], h := [], n0 := 0 }) | .inr b0 => (.ret, { sl := [(4, .l 4 0), (5, .l 5 0), (8, .v (.sc (.bool (b0)))), (10, .l 10 0), (12, .l 12 0), (14, .l 14 0)], lo := [], h := [], n0 := 0 })
theorem bL8_44_0 (k : Nat) (cX : Ex → CS → Option (Ex × CS)) (x0 : Int) (x1 : Int) (x2 : Bool) (x3 : Int) (x4 : Int) (x5 : Int) (x6 : Int) (x7 : Int) (x8 : Int) (x9 : Int) (x10 : Int) : pieceBody Try.prog (mkTn base o25 t25 8) (TM.evF Try.prog (mkTn base o25 t25) dOk (k + 40)) dOk (k + 40) (codeAt Try.prog (tn0 8) 8 44) 0 44 { sl := [(2, .v (.sc (.int .u64 (x0)))), (3, .v (.sc (.int .u64 (x1)))), (4, .l 4 0), (5, .l 5 0), (9, .v (.sc (.bool (x2)))), (10, .l 10 0), (12, .l 12 0)], lo := [(4, [.int .i64 (x3), .int .i64 (x4)]), (5, [.int .i64 (x5), .int .i64 (x6)]), (10, [.int .i64 (x7), .int .i64 (x8)]), (12, [.int .i64 (x9), .int .i64 (x10)])], h := [], n0 := 0 } cX = (cond (ok (v15 x3 x4 x5 x6)) (cond (ok (v15 x5 x6 x3 x4)) (cond (x2) (cond (Prod.fst (val (v15 x3 x4 x5 x6)) == Prod.fst (val (v15 x5 x6 x3 x4)) && (Prod.fst (Prod.snd (val (v15 x3 x4 x5 x6))) == Prod.fst (Prod.snd (val (v15 x5 x6 x3 x4))) && true)) (cond (isL (L8_68_0 x0 x1 (Prod.snd (Prod.snd (val (v15 x3 x4 x5 x6))) == Prod.snd (Prod.snd (val (v15 x5 x6 x3 x4)))) x3 x4 x5 x6 (Prod.fst (val (v15 x3 x4 x5 x6))) (Prod.fst (Prod.snd (val (v15 x3 x4 x5 x6)))) (Prod.fst (val (v15 x5 x6 x3 x4))) (Prod.fst (Prod.snd (val (v15 x5 x6 x3 x4)))))) (cX .ret { sl := [(4, .l 4 0), (5, .l 5 0), (8, .v (.sc (.bool (getL (L8_68_0 x0 x1 (Prod.snd (Prod.snd (val (v15 x3 x4 x5 x6))) == Prod.snd (Prod.snd (val (v15 x5 x6 x3 x4)))) x3 x4 x5 x6 (Prod.fst (val (v15 x3 x4 x5 x6))) (Prod.fst (Prod.snd (val (v15 x3 x4 x5 x6)))) (Prod.fst (val (v15 x5 x6 x3 x4))) (Prod.fst (Prod.snd (val (v15 x5 x6 x3 x4))))))))), (10, .l 10 0), (12, .l 12 0)], lo := [], h := [], n0 := 0 }) (cond (ok (getR (L8_68_0 x0 x1 (Prod.snd (Prod.snd (val (v15 x3 x4 x5 x6))) == Prod.snd (Prod.snd (val (v15 x5 x6 x3 x4)))) x3 x4 x5 x6 (Prod.fst (val (v15 x3 x4 x5 x6))) (Prod.fst (Prod.snd (val (v15 x3 x4 x5 x6)))) (Prod.fst (val (v15 x5 x6 x3 x4))) (Prod.fst (Prod.snd (val (v15 x5 x6 x3 x4))))))) (cX .ret { sl := [(4, .l 4 0), (5, .l 5 0), (8, .v (.sc (.bool (val (getR (L8_68_0 x0 x1 (Prod.snd (Prod.snd (val (v15 x3 x4 x5 x6))) == Prod.snd (Prod.snd (val (v15 x5 x6 x3 x4)))) x3 x4 x5 x6 (Prod.fst (val (v15 x3 x4 x5 x6))) (Prod.fst (Prod.snd (val (v15 x3 x4 x5 x6)))) (Prod.fst (val (v15 x5 x6 x3 x4))) (Prod.fst (Prod.snd (val (v15 x5 x6 x3 x4)))))))))), (10, .l 10 0), (12, .l 12 0), (14, .l 14 0)], lo := [], h := [], n0 := 0 }) none)) (cond (isL (L8_68_0 x0 x1 false x3 x4 x5 x6 (Prod.fst (val (v15 x3 x4 x5 x6))) (Prod.fst (Prod.snd (val (v15 x3 x4 x5 x6)))) (Prod.fst (val (v15 x5 x6 x3 x4))) (Prod.fst (Prod.snd (val (v15 x5 x6 x3 x4)))))) (cX .ret { sl := [(4, .l 4 0), (5, .l 5 0), (8, .v (.sc (.bool (getL (L8_68_0 x0 x1 false x3 x4 x5 x6 (Prod.fst (val (v15 x3 x4 x5 x6))) (Prod.fst (Prod.snd (val (v15 x3 x4 x5 x6)))) (Prod.fst (val (v15 x5 x6 x3 x4))) (Prod.fst (Prod.snd (val (v15 x5 x6 x3 x4))))))))), (10, .l 10 0), (12, .l 12 0)], lo := [], h := [], n0 := 0 }) (cond (ok (getR (L8_68_0 x0 x1 false x3 x4 x5 x6 (Prod.fst (val (v15 x3 x4 x5 x6))) (Prod.fst (Prod.snd (val (v15 x3 x4 x5 x6)))) (Prod.fst (val (v15 x5 x6 x3 x4))) (Prod.fst (Prod.snd (val (v15 x5 x6 x3 x4))))))) (cX .ret { sl := [(4, .l 4 0), (5, .l 5 0), (8, .v (.sc (.bool (val (getR (L8_68_0 x0 x1 false x3 x4 x5 x6 (Prod.fst (val (v15 x3 x4 x5 x6))) (Prod.fst (Prod.snd (val (v15 x3 x4 x5 x6)))) (Prod.fst (val (v15 x5 x6 x3 x4))) (Prod.fst (Prod.snd (val (v15 x5 x6 x3 x4)))))))))), (10, .l 10 0), (12, .l 12 0), (14, .l 14 0)], lo := [], h := [], n0 := 0 }) none))) (cond (isL (L8_68_0 x0 x1 false x3 x4 x5 x6 (Prod.fst (val (v15 x3 x4 x5 x6))) (Prod.fst (Prod.snd (val (v15 x3 x4 x5 x6)))) (Prod.fst (val (v15 x5 x6 x3 x4))) (Prod.fst (Prod.snd (val (v15 x5 x6 x3 x4)))))) (cX .ret { sl := [(4, .l 4 0), (5, .l 5 0), (8, .v (.sc (.bool (getL (L8_68_0 x0 x1 false x3 x4 x5 x6 (Prod.fst (val (v15 x3 x4 x5 x6))) (Prod.fst (Prod.snd (val (v15 x3 x4 x5 x6)))) (Prod.fst (val (v15 x5 x6 x3 x4))) (Prod.fst (Prod.snd (val (v15 x5 x6 x3 x4))))))))), (10, .l 10 0), (12, .l 12 0)], lo := [], h := [], n0 := 0 }) (cond (ok (getR (L8_68_0 x0 x1 false x3 x4 x5 x6 (Prod.fst (val (v15 x3 x4 x5 x6))) (Prod.fst (Prod.snd (val (v15 x3 x4 x5 x6)))) (Prod.fst (val (v15 x5 x6 x3 x4))) (Prod.fst (Prod.snd (val (v15 x5 x6 x3 x4))))))) (cX .ret { sl := [(4, .l 4 0), (5, .l 5 0), (8, .v (.sc (.bool (val (getR (L8_68_0 x0 x1 false x3 x4 x5 x6 (Prod.fst (val (v15 x3 x4 x5 x6))) (Prod.fst (Prod.snd (val (v15 x3 x4 x5 x6)))) (Prod.fst (val (v15 x5 x6 x3 x4))) (Prod.fst (Prod.snd (val (v15 x5 x6 x3 x4)))))))))), (10, .l 10 0), (12, .l 12 0), (14, .l 14 0)], lo := [], h := [], n0 := 0 }) none))) none) none) := by kernel_rfl
theorem lL8_44_0 (k : Nat) (x0 : Int) (x1 : Int) (x2 : Bool) (x3 : Int) (x4 : Int) (x5 : Int) (x6 : Int) (x7 : Int) (x8 : Int) (x9 : Int) (x10 : Int) (r : (Bool ⊕ Bool)) : L8_44_0 x0 x1 x2 x3 x4 x5 x6 x7 x8 x9 x10 = some r → pieceBody Try.prog (mkTn base o25 t25 8) (TM.evF Try.prog (mkTn base o25 t25) dOk (k + 40)) dOk (k + 40) (codeAt Try.prog (tn0 8) 8 44) 0 44 { sl := [(2, .v (.sc (.int .u64 (x0)))), (3, .v (.sc (.int .u64 (x1)))), (4, .l 4 0), (5, .l 5 0), (9, .v (.sc (.bool (x2)))), (10, .l 10 0), (12, .l 12 0)], lo := [(4, [.int .i64 (x3), .int .i64 (x4)]), (5, [.int .i64 (x5), .int .i64 (x6)]), (10, [.int .i64 (x7), .int .i64 (x8)]), (12, [.int .i64 (x9), .int .i64 (x10)])], h := [], n0 := 0 } (fun e s => some (e, s)) = some (xL8_44_0 x0 x1 x2 x3 x4 x5 x6 x7 x8 x9 x10 r) := by
  rw [bL8_44_0]
  unfold L8_44_0
  cases (ok (v15 x3 x4 x5 x6)) with
  | true =>
    cases (ok (v15 x5 x6 x3 x4)) with
    | true =>
      cases x2 with
      | true =>
        cases (Prod.fst (val (v15 x3 x4 x5 x6)) == Prod.fst (val (v15 x5 x6 x3 x4)) && (Prod.fst (Prod.snd (val (v15 x3 x4 x5 x6))) == Prod.fst (Prod.snd (val (v15 x5 x6 x3 x4))) && true)) with
        | true =>
          cases (isL (L8_68_0 x0 x1 (Prod.snd (Prod.snd (val (v15 x3 x4 x5 x6))) == Prod.snd (Prod.snd (val (v15 x5 x6 x3 x4)))) x3 x4 x5 x6 (Prod.fst (val (v15 x3 x4 x5 x6))) (Prod.fst (Prod.snd (val (v15 x3 x4 x5 x6)))) (Prod.fst (val (v15 x5 x6 x3 x4))) (Prod.fst (Prod.snd (val (v15 x5 x6 x3 x4)))))) with
          | true =>
            intro h; cases h; rfl
          | false =>
            cases (ok (getR (L8_68_0 x0 x1 (Prod.snd (Prod.snd (val (v15 x3 x4 x5 x6))) == Prod.snd (Prod.snd (val (v15 x5 x6 x3 x4)))) x3 x4 x5 x6 (Prod.fst (val (v15 x3 x4 x5 x6))) (Prod.fst (Prod.snd (val (v15 x3 x4 x5 x6)))) (Prod.fst (val (v15 x5 x6 x3 x4))) (Prod.fst (Prod.snd (val (v15 x5 x6 x3 x4))))))) with
            | true =>
              intro h; cases h; rfl
            | false =>
              intro h; cases h
        | false =>
          cases (isL (L8_68_0 x0 x1 false x3 x4 x5 x6 (Prod.fst (val (v15 x3 x4 x5 x6))) (Prod.fst (Prod.snd (val (v15 x3 x4 x5 x6)))) (Prod.fst (val (v15 x5 x6 x3 x4))) (Prod.fst (Prod.snd (val (v15 x5 x6 x3 x4)))))) with
          | true =>
            intro h; cases h; rfl
          | false =>
            cases (ok (getR (L8_68_0 x0 x1 false x3 x4 x5 x6 (Prod.fst (val (v15 x3 x4 x5 x6))) (Prod.fst (Prod.snd (val (v15 x3 x4 x5 x6)))) (Prod.fst (val (v15 x5 x6 x3 x4))) (Prod.fst (Prod.snd (val (v15 x5 x6 x3 x4))))))) with
            | true =>
              intro h; cases h; rfl
            | false =>
              intro h; cases h
      | false =>
        cases (isL (L8_68_0 x0 x1 false x3 x4 x5 x6 (Prod.fst (val (v15 x3 x4 x5 x6))) (Prod.fst (Prod.snd (val (v15 x3 x4 x5 x6)))) (Prod.fst (val (v15 x5 x6 x3 x4))) (Prod.fst (Prod.snd (val (v15 x5 x6 x3 x4)))))) with
        | true =>
          intro h; cases h; rfl
        | false =>
          cases (ok (getR (L8_68_0 x0 x1 false x3 x4 x5 x6 (Prod.fst (val (v15 x3 x4 x5 x6))) (Prod.fst (Prod.snd (val (v15 x3 x4 x5 x6)))) (Prod.fst (val (v15 x5 x6 x3 x4))) (Prod.fst (Prod.snd (val (v15 x5 x6 x3 x4))))))) with
          | true =>
            intro h; cases h; rfl
          | false =>
            intro h; cases h
    | false =>
      intro h; cases h
  | false =>
    intro h; cases h
def sL8_44_0 : TellS := fun S => match S with
  | { sl := [(2, .v (.sc (.int .u64 (x0)))), (3, .v (.sc (.int .u64 (x1)))), (4, .l 4 0), (5, .l 5 0), (9, .v (.sc (.bool (x2)))), (10, .l 10 0), (12, .l 12 0)], lo := [(4, [.int .i64 (x3), .int .i64 (x4)]), (5, [.int .i64 (x5), .int .i64 (x6)]), (10, [.int .i64 (x7), .int .i64 (x8)]), (12, [.int .i64 (x9), .int .i64 (x10)])], h := [], n0 := 0 } => some [(isL (L8_44_0 x0 x1 x2 x3 x4 x5 x6 x7 x8 x9 x10), .ret, { sl := [(4, .l 4 0), (5, .l 5 0), (8, .v (.sc (.bool ((getL (L8_44_0 x0 x1 x2 x3 x4 x5 x6 x7 x8 x9 x10)))))), (10, .l 10 0), (12, .l 12 0)], lo := [], h := [], n0 := 0 }), (ok (getR (L8_44_0 x0 x1 x2 x3 x4 x5 x6 x7 x8 x9 x10)), .ret, { sl := [(4, .l 4 0), (5, .l 5 0), (8, .v (.sc (.bool ((val (getR (L8_44_0 x0 x1 x2 x3 x4 x5 x6 x7 x8 x9 x10))))))), (10, .l 10 0), (12, .l 12 0), (14, .l 14 0)], lo := [], h := [], n0 := 0 })]
  | _ => none
theorem wL8_44_0 : NewTell Try.prog dOk base o25 t25 ((8, 44), sL8_44_0) := by
  refine ⟨(codeAt Try.prog (tn0 8) 8 44), 0, by kernel_rfl, ?_⟩
  intro S alts e S' h1 h2
  have h1 : sL8_44_0 S = some alts := h1
  unfold sL8_44_0 at h1
  split at h1
  · cases h1
    rcases pick_cons h2 with ⟨hc0, rfl, rfl⟩ | h2
    · exact ⟨0 + 40, (evPiece_code rfl).trans (lL8_44_0 0 _ _ _ _ _ _ _ _ _ _ _ _ (isL_val hc0))⟩
    obtain ⟨hc1, rfl, rfl⟩ := pick_one h2
    exact ⟨0 + 40, (evPiece_code rfl).trans (lL8_44_0 0 _ _ _ _ _ _ _ _ _ _ _ _ (getR_val (ok_val hc1)))⟩
  · cases h1
/-- queuelablaw06.IntervalMatchesReference: the piece 92 -/
def L3_92_0 (x0 : Bool) (x1 : Int) (x2 : Int) (x3 : Int) (x4 : Int) (x5 : Int) (x6 : Int) (x7 : Int) (x8 : Int) : Option Bool := (cond (ok (v17 x1 x2 x3 x4)) (cond (ok (v18 x1 x2 x3 x4)) (cond (x0) (cond (Prod.fst (val (v17 x1 x2 x3 x4)) == Prod.fst (val (v18 x1 x2 x3 x4)) && (Prod.fst (Prod.snd (val (v17 x1 x2 x3 x4))) == Prod.fst (Prod.snd (val (v18 x1 x2 x3 x4))) && true)) (cond (ok (L3_116_0 (Prod.snd (Prod.snd (val (v17 x1 x2 x3 x4))) == Prod.snd (Prod.snd (val (v18 x1 x2 x3 x4)))) x1 x2 x3 x4 (Prod.fst (val (v17 x1 x2 x3 x4))) (Prod.fst (Prod.snd (val (v17 x1 x2 x3 x4)))) (Prod.fst (val (v18 x1 x2 x3 x4))) (Prod.fst (Prod.snd (val (v18 x1 x2 x3 x4)))))) (some (val (L3_116_0 (Prod.snd (Prod.snd (val (v17 x1 x2 x3 x4))) == Prod.snd (Prod.snd (val (v18 x1 x2 x3 x4)))) x1 x2 x3 x4 (Prod.fst (val (v17 x1 x2 x3 x4))) (Prod.fst (Prod.snd (val (v17 x1 x2 x3 x4)))) (Prod.fst (val (v18 x1 x2 x3 x4))) (Prod.fst (Prod.snd (val (v18 x1 x2 x3 x4))))))) none) (cond (ok (L3_116_0 false x1 x2 x3 x4 (Prod.fst (val (v17 x1 x2 x3 x4))) (Prod.fst (Prod.snd (val (v17 x1 x2 x3 x4)))) (Prod.fst (val (v18 x1 x2 x3 x4))) (Prod.fst (Prod.snd (val (v18 x1 x2 x3 x4)))))) (some (val (L3_116_0 false x1 x2 x3 x4 (Prod.fst (val (v17 x1 x2 x3 x4))) (Prod.fst (Prod.snd (val (v17 x1 x2 x3 x4)))) (Prod.fst (val (v18 x1 x2 x3 x4))) (Prod.fst (Prod.snd (val (v18 x1 x2 x3 x4))))))) none)) (cond (ok (L3_116_0 false x1 x2 x3 x4 (Prod.fst (val (v17 x1 x2 x3 x4))) (Prod.fst (Prod.snd (val (v17 x1 x2 x3 x4)))) (Prod.fst (val (v18 x1 x2 x3 x4))) (Prod.fst (Prod.snd (val (v18 x1 x2 x3 x4)))))) (some (val (L3_116_0 false x1 x2 x3 x4 (Prod.fst (val (v17 x1 x2 x3 x4))) (Prod.fst (Prod.snd (val (v17 x1 x2 x3 x4)))) (Prod.fst (val (v18 x1 x2 x3 x4))) (Prod.fst (Prod.snd (val (v18 x1 x2 x3 x4))))))) none)) none) none)
def xL3_92_0 (x0 : Bool) (x1 : Int) (x2 : Int) (x3 : Int) (x4 : Int) (x5 : Int) (x6 : Int) (x7 : Int) (x8 : Int) : Bool → Ex × CS := fun r => (.ret, { sl := [(2, .l 2 0), (3, .l 3 0), (4, .v (.sc (.bool (r)))), (6, .l 6 0), (8, .l 8 0)], lo := [], h := [], n0 := 0 })
theorem bL3_92_0 (k : Nat) (cX : Ex → CS → Option (Ex × CS)) (x0 : Bool) (x1 : Int) (x2 : Int) (x3 : Int) (x4 : Int) (x5 : Int) (x6 : Int) (x7 : Int) (x8 : Int) : pieceBody Try.prog (mkTn base o25 t25 3) (TM.evF Try.prog (mkTn base o25 t25) dOk (k + 40)) dOk (k + 40) (codeAt Try.prog (tn0 3) 3 92) 0 92 { sl := [(2, .l 2 0), (3, .l 3 0), (5, .v (.sc (.bool (x0)))), (6, .l 6 0), (8, .l 8 0)], lo := [(2, [.int .i64 (x1), .int .i64 (x2)]), (3, [.int .i64 (x3), .int .i64 (x4)]), (6, [.int .i64 (x5), .int .i64 (x6)]), (8, [.int .i64 (x7), .int .i64 (x8)])], h := [], n0 := 0 } cX = (cond (ok (v17 x1 x2 x3 x4)) (cond (ok (v18 x1 x2 x3 x4)) (cond (x0) (cond (Prod.fst (val (v17 x1 x2 x3 x4)) == Prod.fst (val (v18 x1 x2 x3 x4)) && (Prod.fst (Prod.snd (val (v17 x1 x2 x3 x4))) == Prod.fst (Prod.snd (val (v18 x1 x2 x3 x4))) && true)) (cond (ok (L3_116_0 (Prod.snd (Prod.snd (val (v17 x1 x2 x3 x4))) == Prod.snd (Prod.snd (val (v18 x1 x2 x3 x4)))) x1 x2 x3 x4 (Prod.fst (val (v17 x1 x2 x3 x4))) (Prod.fst (Prod.snd (val (v17 x1 x2 x3 x4)))) (Prod.fst (val (v18 x1 x2 x3 x4))) (Prod.fst (Prod.snd (val (v18 x1 x2 x3 x4)))))) (cX .ret { sl := [(2, .l 2 0), (3, .l 3 0), (4, .v (.sc (.bool (val (L3_116_0 (Prod.snd (Prod.snd (val (v17 x1 x2 x3 x4))) == Prod.snd (Prod.snd (val (v18 x1 x2 x3 x4)))) x1 x2 x3 x4 (Prod.fst (val (v17 x1 x2 x3 x4))) (Prod.fst (Prod.snd (val (v17 x1 x2 x3 x4)))) (Prod.fst (val (v18 x1 x2 x3 x4))) (Prod.fst (Prod.snd (val (v18 x1 x2 x3 x4))))))))), (6, .l 6 0), (8, .l 8 0)], lo := [], h := [], n0 := 0 }) none) (cond (ok (L3_116_0 false x1 x2 x3 x4 (Prod.fst (val (v17 x1 x2 x3 x4))) (Prod.fst (Prod.snd (val (v17 x1 x2 x3 x4)))) (Prod.fst (val (v18 x1 x2 x3 x4))) (Prod.fst (Prod.snd (val (v18 x1 x2 x3 x4)))))) (cX .ret { sl := [(2, .l 2 0), (3, .l 3 0), (4, .v (.sc (.bool (val (L3_116_0 false x1 x2 x3 x4 (Prod.fst (val (v17 x1 x2 x3 x4))) (Prod.fst (Prod.snd (val (v17 x1 x2 x3 x4)))) (Prod.fst (val (v18 x1 x2 x3 x4))) (Prod.fst (Prod.snd (val (v18 x1 x2 x3 x4))))))))), (6, .l 6 0), (8, .l 8 0)], lo := [], h := [], n0 := 0 }) none)) (cond (ok (L3_116_0 false x1 x2 x3 x4 (Prod.fst (val (v17 x1 x2 x3 x4))) (Prod.fst (Prod.snd (val (v17 x1 x2 x3 x4)))) (Prod.fst (val (v18 x1 x2 x3 x4))) (Prod.fst (Prod.snd (val (v18 x1 x2 x3 x4)))))) (cX .ret { sl := [(2, .l 2 0), (3, .l 3 0), (4, .v (.sc (.bool (val (L3_116_0 false x1 x2 x3 x4 (Prod.fst (val (v17 x1 x2 x3 x4))) (Prod.fst (Prod.snd (val (v17 x1 x2 x3 x4)))) (Prod.fst (val (v18 x1 x2 x3 x4))) (Prod.fst (Prod.snd (val (v18 x1 x2 x3 x4))))))))), (6, .l 6 0), (8, .l 8 0)], lo := [], h := [], n0 := 0 }) none)) none) none) := by kernel_rfl
theorem lL3_92_0 (k : Nat) (x0 : Bool) (x1 : Int) (x2 : Int) (x3 : Int) (x4 : Int) (x5 : Int) (x6 : Int) (x7 : Int) (x8 : Int) (r : Bool) : L3_92_0 x0 x1 x2 x3 x4 x5 x6 x7 x8 = some r → pieceBody Try.prog (mkTn base o25 t25 3) (TM.evF Try.prog (mkTn base o25 t25) dOk (k + 40)) dOk (k + 40) (codeAt Try.prog (tn0 3) 3 92) 0 92 { sl := [(2, .l 2 0), (3, .l 3 0), (5, .v (.sc (.bool (x0)))), (6, .l 6 0), (8, .l 8 0)], lo := [(2, [.int .i64 (x1), .int .i64 (x2)]), (3, [.int .i64 (x3), .int .i64 (x4)]), (6, [.int .i64 (x5), .int .i64 (x6)]), (8, [.int .i64 (x7), .int .i64 (x8)])], h := [], n0 := 0 } (fun e s => some (e, s)) = some (xL3_92_0 x0 x1 x2 x3 x4 x5 x6 x7 x8 r) := by
  rw [bL3_92_0]
  unfold L3_92_0
  cases (ok (v17 x1 x2 x3 x4)) with
  | true =>
    cases (ok (v18 x1 x2 x3 x4)) with
    | true =>
      cases x0 with
      | true =>
        cases (Prod.fst (val (v17 x1 x2 x3 x4)) == Prod.fst (val (v18 x1 x2 x3 x4)) && (Prod.fst (Prod.snd (val (v17 x1 x2 x3 x4))) == Prod.fst (Prod.snd (val (v18 x1 x2 x3 x4))) && true)) with
        | true =>
          cases (ok (L3_116_0 (Prod.snd (Prod.snd (val (v17 x1 x2 x3 x4))) == Prod.snd (Prod.snd (val (v18 x1 x2 x3 x4)))) x1 x2 x3 x4 (Prod.fst (val (v17 x1 x2 x3 x4))) (Prod.fst (Prod.snd (val (v17 x1 x2 x3 x4)))) (Prod.fst (val (v18 x1 x2 x3 x4))) (Prod.fst (Prod.snd (val (v18 x1 x2 x3 x4)))))) with
          | true =>
            intro h; cases h; rfl
          | false =>
            intro h; cases h
        | false =>
          cases (ok (L3_116_0 false x1 x2 x3 x4 (Prod.fst (val (v17 x1 x2 x3 x4))) (Prod.fst (Prod.snd (val (v17 x1 x2 x3 x4)))) (Prod.fst (val (v18 x1 x2 x3 x4))) (Prod.fst (Prod.snd (val (v18 x1 x2 x3 x4)))))) with
          | true =>
            intro h; cases h; rfl
          | false =>
            intro h; cases h
      | false =>
        cases (ok (L3_116_0 false x1 x2 x3 x4 (Prod.fst (val (v17 x1 x2 x3 x4))) (Prod.fst (Prod.snd (val (v17 x1 x2 x3 x4)))) (Prod.fst (val (v18 x1 x2 x3 x4))) (Prod.fst (Prod.snd (val (v18 x1 x2 x3 x4)))))) with
        | true =>
          intro h; cases h; rfl
        | false =>
          intro h; cases h
    | false =>
      intro h; cases h
  | false =>
    intro h; cases h
def sL3_92_0 : TellS := fun S => match S with
  | { sl := [(2, .l 2 0), (3, .l 3 0), (5, .v (.sc (.bool (x0)))), (6, .l 6 0), (8, .l 8 0)], lo := [(2, [.int .i64 (x1), .int .i64 (x2)]), (3, [.int .i64 (x3), .int .i64 (x4)]), (6, [.int .i64 (x5), .int .i64 (x6)]), (8, [.int .i64 (x7), .int .i64 (x8)])], h := [], n0 := 0 } => some [(ok (L3_92_0 x0 x1 x2 x3 x4 x5 x6 x7 x8), .ret, { sl := [(2, .l 2 0), (3, .l 3 0), (4, .v (.sc (.bool ((val (L3_92_0 x0 x1 x2 x3 x4 x5 x6 x7 x8)))))), (6, .l 6 0), (8, .l 8 0)], lo := [], h := [], n0 := 0 })]
  | _ => none
theorem wL3_92_0 : NewTell Try.prog dOk base o25 t25 ((3, 92), sL3_92_0) := by
  refine ⟨(codeAt Try.prog (tn0 3) 3 92), 0, by kernel_rfl, ?_⟩
  intro S alts e S' h1 h2
  have h1 : sL3_92_0 S = some alts := h1
  unfold sL3_92_0 at h1
  split at h1
  · cases h1
    obtain ⟨hc0, rfl, rfl⟩ := pick_one h2
    exact ⟨0 + 40, (evPiece_code rfl).trans (lL3_92_0 0 _ _ _ _ _ _ _ _ _ _ (ok_val hc0))⟩
  · cases h1
/-- queuelablaw06.IntervalLeast: the loop 24 -/
def L5_24_0 : Nat → Bool → Bool → Int → Bool → Bool → Int → Int → Int → Int → Int → Int → Int → Int → Int → (List Int) → Option (Bool × Bool)
  | 0, _, _, _, _, _, _, _, _, _, _, _, _, _, _, _ => none
  | n + 1, x0, x1, x2, x3, x4, x5, x6, x7, x8, x9, x10, x11, x12, x13, x14 => (cond (decide (x7 < x6)) (cond (decide ((0 : Int) ≤ x7)) (cond (decide (x7 < (↑(List.length x14) : Int))) (cond (decide (Int.toNat x7 < List.length x14)) (cond (ok (L5_212_0 x0 x1 x2 x3 x4 (List.getD x14 (Int.toNat x7) (0 : Int)) x5 x6 x7 x8 x9 x10 x11 x12 x13 x14)) (L5_24_0 n (x0) (x1) (x2) (Prod.fst (val (L5_212_0 x0 x1 x2 x3 x4 (List.getD x14 (Int.toNat x7) (0 : Int)) x5 x6 x7 x8 x9 x10 x11 x12 x13 x14))) (Prod.snd (val (L5_212_0 x0 x1 x2 x3 x4 (List.getD x14 (Int.toNat x7) (0 : Int)) x5 x6 x7 x8 x9 x10 x11 x12 x13 x14))) (x5) (x6) (IntKind.wrap IntKind.i64 (x7 + (1 : Int))) (x8) (x9) (x10) (x11) (x12) (x13) (x14)) none) none) none) none) (some (x3, x4)))
theorem qL5_24_0 (n : Nat) (x0 : Bool) (x1 : Bool) (x2 : Int) (x3 : Bool) (x4 : Bool) (x5 : Int) (x6 : Int) (x7 : Int) (x8 : Int) (x9 : Int) (x10 : Int) (x11 : Int) (x12 : Int) (x13 : Int) (x14 : (List Int)) : L5_24_0 (n + 1) x0 x1 x2 x3 x4 x5 x6 x7 x8 x9 x10 x11 x12 x13 x14 = (cond (decide (x7 < x6)) (cond (decide ((0 : Int) ≤ x7)) (cond (decide (x7 < (↑(List.length x14) : Int))) (cond (decide (Int.toNat x7 < List.length x14)) (cond (ok (L5_212_0 x0 x1 x2 x3 x4 (List.getD x14 (Int.toNat x7) (0 : Int)) x5 x6 x7 x8 x9 x10 x11 x12 x13 x14)) (L5_24_0 n (x0) (x1) (x2) (Prod.fst (val (L5_212_0 x0 x1 x2 x3 x4 (List.getD x14 (Int.toNat x7) (0 : Int)) x5 x6 x7 x8 x9 x10 x11 x12 x13 x14))) (Prod.snd (val (L5_212_0 x0 x1 x2 x3 x4 (List.getD x14 (Int.toNat x7) (0 : Int)) x5 x6 x7 x8 x9 x10 x11 x12 x13 x14))) (x5) (x6) (IntKind.wrap IntKind.i64 (x7 + (1 : Int))) (x8) (x9) (x10) (x11) (x12) (x13) (x14)) none) none) none) none) (some (x3, x4))) := by rfl
def xL5_24_0 (x0 : Bool) (x1 : Bool) (x2 : Int) (x3 : Bool) (x4 : Bool) (x5 : Int) (x6 : Int) (x7 : Int) (x8 : Int) (x9 : Int) (x10 : Int) (x11 : Int) (x12 : Int) (x13 : Int) (x14 : (List Int)) : (Bool × Bool) → Ex × CS := fun r => ((.exit 3), { sl := [(2, .l 2 0), (3, .l 3 0), (5, .v (.sc (.bool (x0)))), (6, .v (.sc (.bool (x1)))), (8, .l 8 0), (10, .v (.sc (.bool (r.1)))), (11, .v (.sc (.bool (r.2)))), (35, .v (.sc (.int .i64 (x5))))], lo := [(2, [.int .i64 (x8), .int .i64 (x9)]), (3, [.int .i64 (x10), .int .i64 (x11)])], h := [], n0 := 0 })
theorem bL5_24_0 (k : Nat) (cN : CS → Option (Ex × CS)) (cX : Ex → CS → Option (Ex × CS)) (x0 : Bool) (x1 : Bool) (x2 : Int) (x3 : Bool) (x4 : Bool) (x5 : Int) (x6 : Int) (x7 : Int) (x8 : Int) (x9 : Int) (x10 : Int) (x11 : Int) (x12 : Int) (x13 : Int) (x14 : (List Int)) : loopBody Try.prog (mkTn base o25 t25 5) (TM.evF Try.prog (mkTn base o25 t25) dOk (k + 40)) dOk (k + 40) (codeAt Try.prog (tn0 5) 5 24) 3 24 { sl := [(2, .l 2 0), (3, .l 3 0), (5, .v (.sc (.bool (x0)))), (6, .v (.sc (.bool (x1)))), (7, .v (.sc (.int .i64 (x2)))), (8, .l 8 0), (10, .v (.sc (.bool (x3)))), (11, .v (.sc (.bool (x4)))), (35, .v (.sc (.int .i64 (x5)))), (95, .v (.sc (.g 0))), (96, .v (.sc (.int .i64 (x6)))), (97, .v (.sc (.int .i64 (x7))))], lo := [(2, [.int .i64 (x8), .int .i64 (x9)]), (3, [.int .i64 (x10), .int .i64 (x11)]), (8, [.int .i64 (x12), .int .i64 (x13)])], h := [.row 3 (.int .i64) (x14)], n0 := 0 } cN cX = (cond (decide (x7 < x6)) (cond (decide ((0 : Int) ≤ x7)) (cond (decide (x7 < (↑(List.length x14) : Int))) (cond (decide (Int.toNat x7 < List.length x14)) (cond (ok (L5_212_0 x0 x1 x2 x3 x4 (List.getD x14 (Int.toNat x7) (0 : Int)) x5 x6 x7 x8 x9 x10 x11 x12 x13 x14)) (cN { sl := [(2, .l 2 0), (3, .l 3 0), (5, .v (.sc (.bool (x0)))), (6, .v (.sc (.bool (x1)))), (7, .v (.sc (.int .i64 (x2)))), (8, .l 8 0), (10, .v (.sc (.bool (Prod.fst (val (L5_212_0 x0 x1 x2 x3 x4 (List.getD x14 (Int.toNat x7) (0 : Int)) x5 x6 x7 x8 x9 x10 x11 x12 x13 x14)))))), (11, .v (.sc (.bool (Prod.snd (val (L5_212_0 x0 x1 x2 x3 x4 (List.getD x14 (Int.toNat x7) (0 : Int)) x5 x6 x7 x8 x9 x10 x11 x12 x13 x14)))))), (35, .v (.sc (.int .i64 (x5)))), (95, .v (.sc (.g 0))), (96, .v (.sc (.int .i64 (x6)))), (97, .v (.sc (.int .i64 (IntKind.wrap IntKind.i64 (x7 + (1 : Int))))))], lo := [(2, [.int .i64 (x8), .int .i64 (x9)]), (3, [.int .i64 (x10), .int .i64 (x11)]), (8, [.int .i64 (x12), .int .i64 (x13)])], h := [.row 3 (.int .i64) (x14)], n0 := 0 }) none) none) none) none) (cX (.exit 3) { sl := [(2, .l 2 0), (3, .l 3 0), (5, .v (.sc (.bool (x0)))), (6, .v (.sc (.bool (x1)))), (8, .l 8 0), (10, .v (.sc (.bool (x3)))), (11, .v (.sc (.bool (x4)))), (35, .v (.sc (.int .i64 (x5))))], lo := [(2, [.int .i64 (x8), .int .i64 (x9)]), (3, [.int .i64 (x10), .int .i64 (x11)])], h := [], n0 := 0 })) := by kernel_rfl
theorem lL5_24_0 (k m : Nat) : ∀ (n : Nat) (x0 : Bool) (x1 : Bool) (x2 : Int) (x3 : Bool) (x4 : Bool) (x5 : Int) (x6 : Int) (x7 : Int) (x8 : Int) (x9 : Int) (x10 : Int) (x11 : Int) (x12 : Int) (x13 : Int) (x14 : (List Int)) (r : (Bool × Bool)), L5_24_0 n x0 x1 x2 x3 x4 x5 x6 x7 x8 x9 x10 x11 x12 x13 x14 = some r → loopE Try.prog (mkTn base o25 t25 5) (TM.evF Try.prog (mkTn base o25 t25) dOk (k + 40)) dOk (k + 40) (codeAt Try.prog (tn0 5) 5 24) 3 24 (n + m) { sl := [(2, .l 2 0), (3, .l 3 0), (5, .v (.sc (.bool (x0)))), (6, .v (.sc (.bool (x1)))), (7, .v (.sc (.int .i64 (x2)))), (8, .l 8 0), (10, .v (.sc (.bool (x3)))), (11, .v (.sc (.bool (x4)))), (35, .v (.sc (.int .i64 (x5)))), (95, .v (.sc (.g 0))), (96, .v (.sc (.int .i64 (x6)))), (97, .v (.sc (.int .i64 (x7))))], lo := [(2, [.int .i64 (x8), .int .i64 (x9)]), (3, [.int .i64 (x10), .int .i64 (x11)]), (8, [.int .i64 (x12), .int .i64 (x13)])], h := [.row 3 (.int .i64) (x14)], n0 := 0 } = some (xL5_24_0 x0 x1 x2 x3 x4 x5 x6 x7 x8 x9 x10 x11 x12 x13 x14 r) := by
  intro n
  induction n with
  | zero => intro _ _ _ _ _ _ _ _ _ _ _ _ _ _ _ r h; cases h
  | succ n ih =>
    intro x0 x1 x2 x3 x4 x5 x6 x7 x8 x9 x10 x11 x12 x13 x14 r
    rw [show n + 1 + m = n + m + 1 by omega, loop_step, bL5_24_0, qL5_24_0]
    cases (decide (x7 < x6)) with
    | true =>
      cases (decide ((0 : Int) ≤ x7)) with
      | true =>
        cases (decide (x7 < (↑(List.length x14) : Int))) with
        | true =>
          cases (decide (Int.toNat x7 < List.length x14)) with
          | true =>
            cases (ok (L5_212_0 x0 x1 x2 x3 x4 (List.getD x14 (Int.toNat x7) (0 : Int)) x5 x6 x7 x8 x9 x10 x11 x12 x13 x14)) with
            | true =>
              exact ih _ _ _ _ _ _ _ _ _ _ _ _ _ _ _ r
            | false =>
              intro h; cases h
          | false =>
            intro h; cases h
        | false =>
          intro h; cases h
      | false =>
        intro h; cases h
    | false =>
      intro h; cases h; rfl
def sL5_24_0 : TellS := fun S => match S with
  | { sl := [(2, .l 2 0), (3, .l 3 0), (5, .v (.sc (.bool (x0)))), (6, .v (.sc (.bool (x1)))), (7, .v (.sc (.int .i64 (x2)))), (8, .l 8 0), (10, .v (.sc (.bool (x3)))), (11, .v (.sc (.bool (x4)))), (35, .v (.sc (.int .i64 (x5)))), (95, .v (.sc (.g 0))), (96, .v (.sc (.int .i64 (x6)))), (97, .v (.sc (.int .i64 (x7))))], lo := [(2, [.int .i64 (x8), .int .i64 (x9)]), (3, [.int .i64 (x10), .int .i64 (x11)]), (8, [.int .i64 (x12), .int .i64 (x13)])], h := [.row 3 (.int .i64) (x14)], n0 := 0 } => some [(ok (L5_24_0 FU x0 x1 x2 x3 x4 x5 x6 x7 x8 x9 x10 x11 x12 x13 x14), (.exit 3), { sl := [(2, .l 2 0), (3, .l 3 0), (5, .v (.sc (.bool (x0)))), (6, .v (.sc (.bool (x1)))), (8, .l 8 0), (10, .v (.sc (.bool ((val (L5_24_0 FU x0 x1 x2 x3 x4 x5 x6 x7 x8 x9 x10 x11 x12 x13 x14)).1)))), (11, .v (.sc (.bool ((val (L5_24_0 FU x0 x1 x2 x3 x4 x5 x6 x7 x8 x9 x10 x11 x12 x13 x14)).2)))), (35, .v (.sc (.int .i64 (x5))))], lo := [(2, [.int .i64 (x8), .int .i64 (x9)]), (3, [.int .i64 (x10), .int .i64 (x11)])], h := [], n0 := 0 })]
  | _ => none
theorem wL5_24_0 : NewTell Try.prog dOk base o25 t25 ((5, 24), sL5_24_0) := by
  refine ⟨.loop (codeAt Try.prog (tn0 5) 5 24), 3, by kernel_rfl, ?_⟩
  intro S alts e S' h1 h2
  have h1 : sL5_24_0 S = some alts := h1
  unfold sL5_24_0 at h1
  split at h1
  · cases h1
    obtain ⟨hc0, rfl, rfl⟩ := pick_one h2
    exact ⟨FU + 40, (evPiece_loop rfl).trans (lL5_24_0 FU 40 FU _ _ _ _ _ _ _ _ _ _ _ _ _ _ _ _ (ok_val hc0))⟩
  · cases h1
/-- queuelablaw06.IntervalNarrower: the piece 188 -/
def L6_188_0 (x0 : Bool) (x1 : Int) (x2 : Int) (x3 : Int) (x4 : Int) (x5 : Int) (x6 : Int) (x7 : Int) (x8 : Int) (x9 : Int) (x10 : Int) (x11 : Int) (x12 : Int) : Option Bool := (cond (ok (v23 x5 x6 x7 x8)) (cond (ok (v23 x1 x2 x3 x4)) (cond (x0) (cond (ok (v33 (Prod.fst (val (v23 x5 x6 x7 x8))) (Prod.fst (Prod.snd (val (v23 x5 x6 x7 x8)))) (Prod.snd (Prod.snd (val (v23 x5 x6 x7 x8)))) (Prod.fst (val (v23 x1 x2 x3 x4))) (Prod.fst (Prod.snd (val (v23 x1 x2 x3 x4)))) (Prod.snd (Prod.snd (val (v23 x1 x2 x3 x4)))))) (cond (ok (L6_212_0 (val (v33 (Prod.fst (val (v23 x5 x6 x7 x8))) (Prod.fst (Prod.snd (val (v23 x5 x6 x7 x8)))) (Prod.snd (Prod.snd (val (v23 x5 x6 x7 x8)))) (Prod.fst (val (v23 x1 x2 x3 x4))) (Prod.fst (Prod.snd (val (v23 x1 x2 x3 x4)))) (Prod.snd (Prod.snd (val (v23 x1 x2 x3 x4)))))) x1 x2 x3 x4 x5 x6 x7 x8 (Prod.fst (val (v23 x5 x6 x7 x8))) (Prod.fst (Prod.snd (val (v23 x5 x6 x7 x8)))) (Prod.fst (val (v23 x1 x2 x3 x4))) (Prod.fst (Prod.snd (val (v23 x1 x2 x3 x4)))))) (some (val (L6_212_0 (val (v33 (Prod.fst (val (v23 x5 x6 x7 x8))) (Prod.fst (Prod.snd (val (v23 x5 x6 x7 x8)))) (Prod.snd (Prod.snd (val (v23 x5 x6 x7 x8)))) (Prod.fst (val (v23 x1 x2 x3 x4))) (Prod.fst (Prod.snd (val (v23 x1 x2 x3 x4)))) (Prod.snd (Prod.snd (val (v23 x1 x2 x3 x4)))))) x1 x2 x3 x4 x5 x6 x7 x8 (Prod.fst (val (v23 x5 x6 x7 x8))) (Prod.fst (Prod.snd (val (v23 x5 x6 x7 x8)))) (Prod.fst (val (v23 x1 x2 x3 x4))) (Prod.fst (Prod.snd (val (v23 x1 x2 x3 x4))))))) none) none) (cond (ok (L6_212_0 false x1 x2 x3 x4 x5 x6 x7 x8 (Prod.fst (val (v23 x5 x6 x7 x8))) (Prod.fst (Prod.snd (val (v23 x5 x6 x7 x8)))) (Prod.fst (val (v23 x1 x2 x3 x4))) (Prod.fst (Prod.snd (val (v23 x1 x2 x3 x4)))))) (some (val (L6_212_0 false x1 x2 x3 x4 x5 x6 x7 x8 (Prod.fst (val (v23 x5 x6 x7 x8))) (Prod.fst (Prod.snd (val (v23 x5 x6 x7 x8)))) (Prod.fst (val (v23 x1 x2 x3 x4))) (Prod.fst (Prod.snd (val (v23 x1 x2 x3 x4))))))) none)) none) none)
def xL6_188_0 (x0 : Bool) (x1 : Int) (x2 : Int) (x3 : Int) (x4 : Int) (x5 : Int) (x6 : Int) (x7 : Int) (x8 : Int) (x9 : Int) (x10 : Int) (x11 : Int) (x12 : Int) : Bool → Ex × CS := fun r => (.ret, { sl := [(6, .l 6 0), (7, .l 7 0), (12, .v (.sc (.bool (r)))), (14, .l 14 0), (15, .l 15 0), (16, .l 16 0), (18, .l 18 0)], lo := [], h := [], n0 := 0 })
theorem bL6_188_0 (k : Nat) (cX : Ex → CS → Option (Ex × CS)) (x0 : Bool) (x1 : Int) (x2 : Int) (x3 : Int) (x4 : Int) (x5 : Int) (x6 : Int) (x7 : Int) (x8 : Int) (x9 : Int) (x10 : Int) (x11 : Int) (x12 : Int) : pieceBody Try.prog (mkTn base o25 t25 6) (TM.evF Try.prog (mkTn base o25 t25) dOk (k + 40)) dOk (k + 40) (codeAt Try.prog (tn0 6) 6 188) 0 188 { sl := [(6, .l 6 0), (7, .l 7 0), (13, .v (.sc (.bool (x0)))), (14, .l 14 0), (15, .l 15 0), (16, .l 16 0), (18, .l 18 0)], lo := [(6, [.int .i64 (x1), .int .i64 (x2)]), (7, [.int .i64 (x3), .int .i64 (x4)]), (14, [.int .i64 (x5), .int .i64 (x6)]), (15, [.int .i64 (x7), .int .i64 (x8)]), (16, [.int .i64 (x9), .int .i64 (x10)]), (18, [.int .i64 (x11), .int .i64 (x12)])], h := [], n0 := 0 } cX = (cond (ok (v23 x5 x6 x7 x8)) (cond (ok (v23 x1 x2 x3 x4)) (cond (x0) (cond (ok (v33 (Prod.fst (val (v23 x5 x6 x7 x8))) (Prod.fst (Prod.snd (val (v23 x5 x6 x7 x8)))) (Prod.snd (Prod.snd (val (v23 x5 x6 x7 x8)))) (Prod.fst (val (v23 x1 x2 x3 x4))) (Prod.fst (Prod.snd (val (v23 x1 x2 x3 x4)))) (Prod.snd (Prod.snd (val (v23 x1 x2 x3 x4)))))) (cond (ok (L6_212_0 (val (v33 (Prod.fst (val (v23 x5 x6 x7 x8))) (Prod.fst (Prod.snd (val (v23 x5 x6 x7 x8)))) (Prod.snd (Prod.snd (val (v23 x5 x6 x7 x8)))) (Prod.fst (val (v23 x1 x2 x3 x4))) (Prod.fst (Prod.snd (val (v23 x1 x2 x3 x4)))) (Prod.snd (Prod.snd (val (v23 x1 x2 x3 x4)))))) x1 x2 x3 x4 x5 x6 x7 x8 (Prod.fst (val (v23 x5 x6 x7 x8))) (Prod.fst (Prod.snd (val (v23 x5 x6 x7 x8)))) (Prod.fst (val (v23 x1 x2 x3 x4))) (Prod.fst (Prod.snd (val (v23 x1 x2 x3 x4)))))) (cX .ret { sl := [(6, .l 6 0), (7, .l 7 0), (12, .v (.sc (.bool (val (L6_212_0 (val (v33 (Prod.fst (val (v23 x5 x6 x7 x8))) (Prod.fst (Prod.snd (val (v23 x5 x6 x7 x8)))) (Prod.snd (Prod.snd (val (v23 x5 x6 x7 x8)))) (Prod.fst (val (v23 x1 x2 x3 x4))) (Prod.fst (Prod.snd (val (v23 x1 x2 x3 x4)))) (Prod.snd (Prod.snd (val (v23 x1 x2 x3 x4)))))) x1 x2 x3 x4 x5 x6 x7 x8 (Prod.fst (val (v23 x5 x6 x7 x8))) (Prod.fst (Prod.snd (val (v23 x5 x6 x7 x8)))) (Prod.fst (val (v23 x1 x2 x3 x4))) (Prod.fst (Prod.snd (val (v23 x1 x2 x3 x4))))))))), (14, .l 14 0), (15, .l 15 0), (16, .l 16 0), (18, .l 18 0)], lo := [], h := [], n0 := 0 }) none) none) (cond (ok (L6_212_0 false x1 x2 x3 x4 x5 x6 x7 x8 (Prod.fst (val (v23 x5 x6 x7 x8))) (Prod.fst (Prod.snd (val (v23 x5 x6 x7 x8)))) (Prod.fst (val (v23 x1 x2 x3 x4))) (Prod.fst (Prod.snd (val (v23 x1 x2 x3 x4)))))) (cX .ret { sl := [(6, .l 6 0), (7, .l 7 0), (12, .v (.sc (.bool (val (L6_212_0 false x1 x2 x3 x4 x5 x6 x7 x8 (Prod.fst (val (v23 x5 x6 x7 x8))) (Prod.fst (Prod.snd (val (v23 x5 x6 x7 x8)))) (Prod.fst (val (v23 x1 x2 x3 x4))) (Prod.fst (Prod.snd (val (v23 x1 x2 x3 x4))))))))), (14, .l 14 0), (15, .l 15 0), (16, .l 16 0), (18, .l 18 0)], lo := [], h := [], n0 := 0 }) none)) none) none) := by kernel_rfl
theorem lL6_188_0 (k : Nat) (x0 : Bool) (x1 : Int) (x2 : Int) (x3 : Int) (x4 : Int) (x5 : Int) (x6 : Int) (x7 : Int) (x8 : Int) (x9 : Int) (x10 : Int) (x11 : Int) (x12 : Int) (r : Bool) : L6_188_0 x0 x1 x2 x3 x4 x5 x6 x7 x8 x9 x10 x11 x12 = some r → pieceBody Try.prog (mkTn base o25 t25 6) (TM.evF Try.prog (mkTn base o25 t25) dOk (k + 40)) dOk (k + 40) (codeAt Try.prog (tn0 6) 6 188) 0 188 { sl := [(6, .l 6 0), (7, .l 7 0), (13, .v (.sc (.bool (x0)))), (14, .l 14 0), (15, .l 15 0), (16, .l 16 0), (18, .l 18 0)], lo := [(6, [.int .i64 (x1), .int .i64 (x2)]), (7, [.int .i64 (x3), .int .i64 (x4)]), (14, [.int .i64 (x5), .int .i64 (x6)]), (15, [.int .i64 (x7), .int .i64 (x8)]), (16, [.int .i64 (x9), .int .i64 (x10)]), (18, [.int .i64 (x11), .int .i64 (x12)])], h := [], n0 := 0 } (fun e s => some (e, s)) = some (xL6_188_0 x0 x1 x2 x3 x4 x5 x6 x7 x8 x9 x10 x11 x12 r) := by
  rw [bL6_188_0]
  unfold L6_188_0
  cases (ok (v23 x5 x6 x7 x8)) with
  | true =>
    cases (ok (v23 x1 x2 x3 x4)) with
    | true =>
      cases x0 with
      | true =>
        cases (ok (v33 (Prod.fst (val (v23 x5 x6 x7 x8))) (Prod.fst (Prod.snd (val (v23 x5 x6 x7 x8)))) (Prod.snd (Prod.snd (val (v23 x5 x6 x7 x8)))) (Prod.fst (val (v23 x1 x2 x3 x4))) (Prod.fst (Prod.snd (val (v23 x1 x2 x3 x4)))) (Prod.snd (Prod.snd (val (v23 x1 x2 x3 x4)))))) with
        | true =>
          cases (ok (L6_212_0 (val (v33 (Prod.fst (val (v23 x5 x6 x7 x8))) (Prod.fst (Prod.snd (val (v23 x5 x6 x7 x8)))) (Prod.snd (Prod.snd (val (v23 x5 x6 x7 x8)))) (Prod.fst (val (v23 x1 x2 x3 x4))) (Prod.fst (Prod.snd (val (v23 x1 x2 x3 x4)))) (Prod.snd (Prod.snd (val (v23 x1 x2 x3 x4)))))) x1 x2 x3 x4 x5 x6 x7 x8 (Prod.fst (val (v23 x5 x6 x7 x8))) (Prod.fst (Prod.snd (val (v23 x5 x6 x7 x8)))) (Prod.fst (val (v23 x1 x2 x3 x4))) (Prod.fst (Prod.snd (val (v23 x1 x2 x3 x4)))))) with
          | true =>
            intro h; cases h; rfl
          | false =>
            intro h; cases h
        | false =>
          intro h; cases h
      | false =>
        cases (ok (L6_212_0 false x1 x2 x3 x4 x5 x6 x7 x8 (Prod.fst (val (v23 x5 x6 x7 x8))) (Prod.fst (Prod.snd (val (v23 x5 x6 x7 x8)))) (Prod.fst (val (v23 x1 x2 x3 x4))) (Prod.fst (Prod.snd (val (v23 x1 x2 x3 x4)))))) with
        | true =>
          intro h; cases h; rfl
        | false =>
          intro h; cases h
    | false =>
      intro h; cases h
  | false =>
    intro h; cases h
def sL6_188_0 : TellS := fun S => match S with
  | { sl := [(6, .l 6 0), (7, .l 7 0), (13, .v (.sc (.bool (x0)))), (14, .l 14 0), (15, .l 15 0), (16, .l 16 0), (18, .l 18 0)], lo := [(6, [.int .i64 (x1), .int .i64 (x2)]), (7, [.int .i64 (x3), .int .i64 (x4)]), (14, [.int .i64 (x5), .int .i64 (x6)]), (15, [.int .i64 (x7), .int .i64 (x8)]), (16, [.int .i64 (x9), .int .i64 (x10)]), (18, [.int .i64 (x11), .int .i64 (x12)])], h := [], n0 := 0 } => some [(ok (L6_188_0 x0 x1 x2 x3 x4 x5 x6 x7 x8 x9 x10 x11 x12), .ret, { sl := [(6, .l 6 0), (7, .l 7 0), (12, .v (.sc (.bool ((val (L6_188_0 x0 x1 x2 x3 x4 x5 x6 x7 x8 x9 x10 x11 x12)))))), (14, .l 14 0), (15, .l 15 0), (16, .l 16 0), (18, .l 18 0)], lo := [], h := [], n0 := 0 })]
  | _ => none
theorem wL6_188_0 : NewTell Try.prog dOk base o25 t25 ((6, 188), sL6_188_0) := by
  refine ⟨(codeAt Try.prog (tn0 6) 6 188), 0, by kernel_rfl, ?_⟩
  intro S alts e S' h1 h2
  have h1 : sL6_188_0 S = some alts := h1
  unfold sL6_188_0 at h1
  split at h1
  · cases h1
    obtain ⟨hc0, rfl, rfl⟩ := pick_one h2
    exact ⟨0 + 40, (evPiece_code rfl).trans (lL6_188_0 0 _ _ _ _ _ _ _ _ _ _ _ _ _ _ (ok_val hc0))⟩
  · cases h1
/-- queuelablaw06.IntervalContains: the piece 172 -/
def L4_172_0 (x0 : Bool) (x1 : Int) (x2 : Int) (x3 : Int) (x4 : Int) (x5 : Int) (x6 : Int) (x7 : Int) (x8 : Int) : Option Bool := (cond (ok (v19 x3 x4 x5 x6)) (cond (x0) (cond (ok (v31 (IntKind.wrap IntKind.i64 ((0 : Int) - x1)) x2)) (cond (ok (v30 (Prod.fst (val (v19 x3 x4 x5 x6))) (Prod.fst (Prod.snd (val (v19 x3 x4 x5 x6)))) (Prod.snd (Prod.snd (val (v19 x3 x4 x5 x6)))) (IntKind.wrap IntKind.i64 ((0 : Int) - val (v31 (IntKind.wrap IntKind.i64 ((0 : Int) - x1)) x2))))) (some (val (v30 (Prod.fst (val (v19 x3 x4 x5 x6))) (Prod.fst (Prod.snd (val (v19 x3 x4 x5 x6)))) (Prod.snd (Prod.snd (val (v19 x3 x4 x5 x6)))) (IntKind.wrap IntKind.i64 ((0 : Int) - val (v31 (IntKind.wrap IntKind.i64 ((0 : Int) - x1)) x2)))))) none) none) (some (false))) none)
def xL4_172_0 (x0 : Bool) (x1 : Int) (x2 : Int) (x3 : Int) (x4 : Int) (x5 : Int) (x6 : Int) (x7 : Int) (x8 : Int) : Bool → Ex × CS := fun r => (.ret, { sl := [(4, .l 4 0), (5, .l 5 0), (8, .v (.sc (.bool (r)))), (12, .l 12 0), (136, .l 5 0), (140, .l 5 1)], lo := [], h := [], n0 := 0 })
theorem bL4_172_0 (k : Nat) (cX : Ex → CS → Option (Ex × CS)) (x0 : Bool) (x1 : Int) (x2 : Int) (x3 : Int) (x4 : Int) (x5 : Int) (x6 : Int) (x7 : Int) (x8 : Int) : pieceBody Try.prog (mkTn base o25 t25 4) (TM.evF Try.prog (mkTn base o25 t25) dOk (k + 40)) dOk (k + 40) (codeAt Try.prog (tn0 4) 4 172) 0 172 { sl := [(4, .l 4 0), (5, .l 5 0), (9, .v (.sc (.bool (x0)))), (10, .v (.sc (.int .i64 (x1)))), (11, .v (.sc (.int .i64 (x2)))), (12, .l 12 0), (136, .l 5 0), (140, .l 5 1)], lo := [(4, [.int .i64 (x3), .int .i64 (x4)]), (5, [.int .i64 (x5), .int .i64 (x6)]), (12, [.int .i64 (x7), .int .i64 (x8)])], h := [], n0 := 0 } cX = (cond (ok (v19 x3 x4 x5 x6)) (cond (x0) (cond (ok (v31 (IntKind.wrap IntKind.i64 ((0 : Int) - x1)) x2)) (cond (ok (v30 (Prod.fst (val (v19 x3 x4 x5 x6))) (Prod.fst (Prod.snd (val (v19 x3 x4 x5 x6)))) (Prod.snd (Prod.snd (val (v19 x3 x4 x5 x6)))) (IntKind.wrap IntKind.i64 ((0 : Int) - val (v31 (IntKind.wrap IntKind.i64 ((0 : Int) - x1)) x2))))) (cX .ret { sl := [(4, .l 4 0), (5, .l 5 0), (8, .v (.sc (.bool (val (v30 (Prod.fst (val (v19 x3 x4 x5 x6))) (Prod.fst (Prod.snd (val (v19 x3 x4 x5 x6)))) (Prod.snd (Prod.snd (val (v19 x3 x4 x5 x6)))) (IntKind.wrap IntKind.i64 ((0 : Int) - val (v31 (IntKind.wrap IntKind.i64 ((0 : Int) - x1)) x2)))))))), (12, .l 12 0), (136, .l 5 0), (140, .l 5 1)], lo := [], h := [], n0 := 0 }) none) none) (cX .ret { sl := [(4, .l 4 0), (5, .l 5 0), (8, .v (.sc (.bool (false)))), (12, .l 12 0), (136, .l 5 0), (140, .l 5 1)], lo := [], h := [], n0 := 0 })) none) := by kernel_rfl
theorem lL4_172_0 (k : Nat) (x0 : Bool) (x1 : Int) (x2 : Int) (x3 : Int) (x4 : Int) (x5 : Int) (x6 : Int) (x7 : Int) (x8 : Int) (r : Bool) : L4_172_0 x0 x1 x2 x3 x4 x5 x6 x7 x8 = some r → pieceBody Try.prog (mkTn base o25 t25 4) (TM.evF Try.prog (mkTn base o25 t25) dOk (k + 40)) dOk (k + 40) (codeAt Try.prog (tn0 4) 4 172) 0 172 { sl := [(4, .l 4 0), (5, .l 5 0), (9, .v (.sc (.bool (x0)))), (10, .v (.sc (.int .i64 (x1)))), (11, .v (.sc (.int .i64 (x2)))), (12, .l 12 0), (136, .l 5 0), (140, .l 5 1)], lo := [(4, [.int .i64 (x3), .int .i64 (x4)]), (5, [.int .i64 (x5), .int .i64 (x6)]), (12, [.int .i64 (x7), .int .i64 (x8)])], h := [], n0 := 0 } (fun e s => some (e, s)) = some (xL4_172_0 x0 x1 x2 x3 x4 x5 x6 x7 x8 r) := by
  rw [bL4_172_0]
  unfold L4_172_0
  cases (ok (v19 x3 x4 x5 x6)) with
  | true =>
    cases x0 with
    | true =>
      cases (ok (v31 (IntKind.wrap IntKind.i64 ((0 : Int) - x1)) x2)) with
      | true =>
        cases (ok (v30 (Prod.fst (val (v19 x3 x4 x5 x6))) (Prod.fst (Prod.snd (val (v19 x3 x4 x5 x6)))) (Prod.snd (Prod.snd (val (v19 x3 x4 x5 x6)))) (IntKind.wrap IntKind.i64 ((0 : Int) - val (v31 (IntKind.wrap IntKind.i64 ((0 : Int) - x1)) x2))))) with
        | true =>
          intro h; cases h; rfl
        | false =>
          intro h; cases h
      | false =>
        intro h; cases h
    | false =>
      intro h; cases h; rfl
  | false =>
    intro h; cases h
def sL4_172_0 : TellS := fun S => match S with
  | { sl := [(4, .l 4 0), (5, .l 5 0), (9, .v (.sc (.bool (x0)))), (10, .v (.sc (.int .i64 (x1)))), (11, .v (.sc (.int .i64 (x2)))), (12, .l 12 0), (136, .l 5 0), (140, .l 5 1)], lo := [(4, [.int .i64 (x3), .int .i64 (x4)]), (5, [.int .i64 (x5), .int .i64 (x6)]), (12, [.int .i64 (x7), .int .i64 (x8)])], h := [], n0 := 0 } => some [(ok (L4_172_0 x0 x1 x2 x3 x4 x5 x6 x7 x8), .ret, { sl := [(4, .l 4 0), (5, .l 5 0), (8, .v (.sc (.bool ((val (L4_172_0 x0 x1 x2 x3 x4 x5 x6 x7 x8)))))), (12, .l 12 0), (136, .l 5 0), (140, .l 5 1)], lo := [], h := [], n0 := 0 })]
  | _ => none
theorem wL4_172_0 : NewTell Try.prog dOk base o25 t25 ((4, 172), sL4_172_0) := by
  refine ⟨(codeAt Try.prog (tn0 4) 4 172), 0, by kernel_rfl, ?_⟩
  intro S alts e S' h1 h2
  have h1 : sL4_172_0 S = some alts := h1
  unfold sL4_172_0 at h1
  split at h1
  · cases h1
    obtain ⟨hc0, rfl, rfl⟩ := pick_one h2
    exact ⟨0 + 40, (evPiece_code rfl).trans (lL4_172_0 0 _ _ _ _ _ _ _ _ _ _ (ok_val hc0))⟩
  · cases h1
/-- queuelablaw06.IntervalContains: the piece 172 -/
def L4_172_1 (x0 : Bool) (x1 : Int) (x2 : Int) (x3 : Int) (x4 : Int) (x5 : Int) (x6 : Int) (x7 : Int) (x8 : Int) : Option Bool := (cond (ok (v19 x3 x4 x5 x6)) (cond (x0) (cond (ok (v31 (IntKind.wrap IntKind.i64 ((0 : Int) - x1)) x2)) (cond (ok (v30 (Prod.fst (val (v19 x3 x4 x5 x6))) (Prod.fst (Prod.snd (val (v19 x3 x4 x5 x6)))) (Prod.snd (Prod.snd (val (v19 x3 x4 x5 x6)))) (IntKind.wrap IntKind.i64 ((0 : Int) - val (v31 (IntKind.wrap IntKind.i64 ((0 : Int) - x1)) x2))))) (some (val (v30 (Prod.fst (val (v19 x3 x4 x5 x6))) (Prod.fst (Prod.snd (val (v19 x3 x4 x5 x6)))) (Prod.snd (Prod.snd (val (v19 x3 x4 x5 x6)))) (IntKind.wrap IntKind.i64 ((0 : Int) - val (v31 (IntKind.wrap IntKind.i64 ((0 : Int) - x1)) x2)))))) none) none) (some (false))) none)
def xL4_172_1 (x0 : Bool) (x1 : Int) (x2 : Int) (x3 : Int) (x4 : Int) (x5 : Int) (x6 : Int) (x7 : Int) (x8 : Int) : Bool → Ex × CS := fun r => (.ret, { sl := [(4, .l 4 0), (5, .l 5 0), (8, .v (.sc (.bool (r)))), (12, .l 12 0), (136, .l 5 0)], lo := [], h := [], n0 := 0 })
theorem bL4_172_1 (k : Nat) (cX : Ex → CS → Option (Ex × CS)) (x0 : Bool) (x1 : Int) (x2 : Int) (x3 : Int) (x4 : Int) (x5 : Int) (x6 : Int) (x7 : Int) (x8 : Int) : pieceBody Try.prog (mkTn base o25 t25 4) (TM.evF Try.prog (mkTn base o25 t25) dOk (k + 40)) dOk (k + 40) (codeAt Try.prog (tn0 4) 4 172) 0 172 { sl := [(4, .l 4 0), (5, .l 5 0), (9, .v (.sc (.bool (x0)))), (10, .v (.sc (.int .i64 (x1)))), (11, .v (.sc (.int .i64 (x2)))), (12, .l 12 0), (136, .l 5 0)], lo := [(4, [.int .i64 (x3), .int .i64 (x4)]), (5, [.int .i64 (x5), .int .i64 (x6)]), (12, [.int .i64 (x7), .int .i64 (x8)])], h := [], n0 := 0 } cX = (cond (ok (v19 x3 x4 x5 x6)) (cond (x0) (cond (ok (v31 (IntKind.wrap IntKind.i64 ((0 : Int) - x1)) x2)) (cond (ok (v30 (Prod.fst (val (v19 x3 x4 x5 x6))) (Prod.fst (Prod.snd (val (v19 x3 x4 x5 x6)))) (Prod.snd (Prod.snd (val (v19 x3 x4 x5 x6)))) (IntKind.wrap IntKind.i64 ((0 : Int) - val (v31 (IntKind.wrap IntKind.i64 ((0 : Int) - x1)) x2))))) (cX .ret { sl := [(4, .l 4 0), (5, .l 5 0), (8, .v (.sc (.bool (val (v30 (Prod.fst (val (v19 x3 x4 x5 x6))) (Prod.fst (Prod.snd (val (v19 x3 x4 x5 x6)))) (Prod.snd (Prod.snd (val (v19 x3 x4 x5 x6)))) (IntKind.wrap IntKind.i64 ((0 : Int) - val (v31 (IntKind.wrap IntKind.i64 ((0 : Int) - x1)) x2)))))))), (12, .l 12 0), (136, .l 5 0)], lo := [], h := [], n0 := 0 }) none) none) (cX .ret { sl := [(4, .l 4 0), (5, .l 5 0), (8, .v (.sc (.bool (false)))), (12, .l 12 0), (136, .l 5 0)], lo := [], h := [], n0 := 0 })) none) := by kernel_rfl
theorem lL4_172_1 (k : Nat) (x0 : Bool) (x1 : Int) (x2 : Int) (x3 : Int) (x4 : Int) (x5 : Int) (x6 : Int) (x7 : Int) (x8 : Int) (r : Bool) : L4_172_1 x0 x1 x2 x3 x4 x5 x6 x7 x8 = some r → pieceBody Try.prog (mkTn base o25 t25 4) (TM.evF Try.prog (mkTn base o25 t25) dOk (k + 40)) dOk (k + 40) (codeAt Try.prog (tn0 4) 4 172) 0 172 { sl := [(4, .l 4 0), (5, .l 5 0), (9, .v (.sc (.bool (x0)))), (10, .v (.sc (.int .i64 (x1)))), (11, .v (.sc (.int .i64 (x2)))), (12, .l 12 0), (136, .l 5 0)], lo := [(4, [.int .i64 (x3), .int .i64 (x4)]), (5, [.int .i64 (x5), .int .i64 (x6)]), (12, [.int .i64 (x7), .int .i64 (x8)])], h := [], n0 := 0 } (fun e s => some (e, s)) = some (xL4_172_1 x0 x1 x2 x3 x4 x5 x6 x7 x8 r) := by
  rw [bL4_172_1]
  unfold L4_172_1
  cases (ok (v19 x3 x4 x5 x6)) with
  | true =>
    cases x0 with
    | true =>
      cases (ok (v31 (IntKind.wrap IntKind.i64 ((0 : Int) - x1)) x2)) with
      | true =>
        cases (ok (v30 (Prod.fst (val (v19 x3 x4 x5 x6))) (Prod.fst (Prod.snd (val (v19 x3 x4 x5 x6)))) (Prod.snd (Prod.snd (val (v19 x3 x4 x5 x6)))) (IntKind.wrap IntKind.i64 ((0 : Int) - val (v31 (IntKind.wrap IntKind.i64 ((0 : Int) - x1)) x2))))) with
        | true =>
          intro h; cases h; rfl
        | false =>
          intro h; cases h
      | false =>
        intro h; cases h
    | false =>
      intro h; cases h; rfl
  | false =>
    intro h; cases h
def sL4_172_1 : TellS := fun S => match S with
  | { sl := [(4, .l 4 0), (5, .l 5 0), (9, .v (.sc (.bool (x0)))), (10, .v (.sc (.int .i64 (x1)))), (11, .v (.sc (.int .i64 (x2)))), (12, .l 12 0), (136, .l 5 0)], lo := [(4, [.int .i64 (x3), .int .i64 (x4)]), (5, [.int .i64 (x5), .int .i64 (x6)]), (12, [.int .i64 (x7), .int .i64 (x8)])], h := [], n0 := 0 } => some [(ok (L4_172_1 x0 x1 x2 x3 x4 x5 x6 x7 x8), .ret, { sl := [(4, .l 4 0), (5, .l 5 0), (8, .v (.sc (.bool ((val (L4_172_1 x0 x1 x2 x3 x4 x5 x6 x7 x8)))))), (12, .l 12 0), (136, .l 5 0)], lo := [], h := [], n0 := 0 })]
  | _ => none
theorem wL4_172_1 : NewTell Try.prog dOk base o25 t25 ((4, 172), sL4_172_1) := by
  refine ⟨(codeAt Try.prog (tn0 4) 4 172), 0, by kernel_rfl, ?_⟩
  intro S alts e S' h1 h2
  have h1 : sL4_172_1 S = some alts := h1
  unfold sL4_172_1 at h1
  split at h1
  · cases h1
    obtain ⟨hc0, rfl, rfl⟩ := pick_one h2
    exact ⟨0 + 40, (evPiece_code rfl).trans (lL4_172_1 0 _ _ _ _ _ _ _ _ _ _ (ok_val hc0))⟩
  · cases h1
def o26 : OrcT := o25
def t26 : TellT := ((8, 44), sL8_44_0) :: ((3, 92), sL3_92_0) :: ((5, 24), sL5_24_0) :: ((6, 188), sL6_188_0) :: ((4, 172), sL4_172_0) :: ((4, 172), sL4_172_1) :: t25
abbrev tn26 : FuncId → TAn := mkTn base o26 t26
theorem ok26 : TnOk Try.prog tn26 (mkA base) dOk := by
  have h0 : TnOk Try.prog (mkTn base o25 t25) (mkA base) dOk := ok25
  have h1 := tn_tell h0 h0 (p := ((4, 172), sL4_172_1)) wL4_172_1
  have h2 := tn_tell h0 h1 (p := ((4, 172), sL4_172_0)) wL4_172_0
  have h3 := tn_tell h0 h2 (p := ((6, 188), sL6_188_0)) wL6_188_0
  have h4 := tn_tell h0 h3 (p := ((5, 24), sL5_24_0)) wL5_24_0
  have h5 := tn_tell h0 h4 (p := ((3, 92), sL3_92_0)) wL3_92_0
  have h6 := tn_tell h0 h5 (p := ((8, 44), sL8_44_0)) wL8_44_0
  exact h6
end Go.Proofs.Ytojbaamhnfinpaa
set_option maxRecDepth 1000000
set_option linter.unusedVariables false
set_option maxHeartbeats 4000000
namespace Go.Proofs.Ytojbaamhnfinpaa
open Go Go.AM Go.TM Go.Proofs
/-- queuelablaw06.IntervalExchanged -/
def v8 (x0 : Int) (x1 : Int) (x2 : Int) (x3 : Int) (x4 : Int) (x5 : Int) : Option Bool := (cond (ok (v11 x0 x1 x2 x3)) (cond (ok (v11 x2 x3 x0 x1)) (cond (Prod.fst (val (v11 x0 x1 x2 x3)) == Prod.fst (val (v11 x2 x3 x0 x1)) && (Prod.fst (Prod.snd (val (v11 x0 x1 x2 x3))) == Prod.fst (Prod.snd (val (v11 x2 x3 x0 x1))) && true)) (cond (isL (L8_44_0 x4 x5 (Prod.snd (Prod.snd (val (v11 x0 x1 x2 x3))) == Prod.snd (Prod.snd (val (v11 x2 x3 x0 x1)))) x0 x1 x2 x3 (Prod.fst (val (v11 x0 x1 x2 x3))) (Prod.fst (Prod.snd (val (v11 x0 x1 x2 x3)))) (Prod.fst (val (v11 x2 x3 x0 x1))) (Prod.fst (Prod.snd (val (v11 x2 x3 x0 x1)))))) (some (getL (L8_44_0 x4 x5 (Prod.snd (Prod.snd (val (v11 x0 x1 x2 x3))) == Prod.snd (Prod.snd (val (v11 x2 x3 x0 x1)))) x0 x1 x2 x3 (Prod.fst (val (v11 x0 x1 x2 x3))) (Prod.fst (Prod.snd (val (v11 x0 x1 x2 x3)))) (Prod.fst (val (v11 x2 x3 x0 x1))) (Prod.fst (Prod.snd (val (v11 x2 x3 x0 x1))))))) (cond (ok (getR (L8_44_0 x4 x5 (Prod.snd (Prod.snd (val (v11 x0 x1 x2 x3))) == Prod.snd (Prod.snd (val (v11 x2 x3 x0 x1)))) x0 x1 x2 x3 (Prod.fst (val (v11 x0 x1 x2 x3))) (Prod.fst (Prod.snd (val (v11 x0 x1 x2 x3)))) (Prod.fst (val (v11 x2 x3 x0 x1))) (Prod.fst (Prod.snd (val (v11 x2 x3 x0 x1))))))) (some (val (getR (L8_44_0 x4 x5 (Prod.snd (Prod.snd (val (v11 x0 x1 x2 x3))) == Prod.snd (Prod.snd (val (v11 x2 x3 x0 x1)))) x0 x1 x2 x3 (Prod.fst (val (v11 x0 x1 x2 x3))) (Prod.fst (Prod.snd (val (v11 x0 x1 x2 x3)))) (Prod.fst (val (v11 x2 x3 x0 x1))) (Prod.fst (Prod.snd (val (v11 x2 x3 x0 x1)))))))) none)) (cond (isL (L8_44_0 x4 x5 false x0 x1 x2 x3 (Prod.fst (val (v11 x0 x1 x2 x3))) (Prod.fst (Prod.snd (val (v11 x0 x1 x2 x3)))) (Prod.fst (val (v11 x2 x3 x0 x1))) (Prod.fst (Prod.snd (val (v11 x2 x3 x0 x1)))))) (some (getL (L8_44_0 x4 x5 false x0 x1 x2 x3 (Prod.fst (val (v11 x0 x1 x2 x3))) (Prod.fst (Prod.snd (val (v11 x0 x1 x2 x3)))) (Prod.fst (val (v11 x2 x3 x0 x1))) (Prod.fst (Prod.snd (val (v11 x2 x3 x0 x1))))))) (cond (ok (getR (L8_44_0 x4 x5 false x0 x1 x2 x3 (Prod.fst (val (v11 x0 x1 x2 x3))) (Prod.fst (Prod.snd (val (v11 x0 x1 x2 x3)))) (Prod.fst (val (v11 x2 x3 x0 x1))) (Prod.fst (Prod.snd (val (v11 x2 x3 x0 x1))))))) (some (val (getR (L8_44_0 x4 x5 false x0 x1 x2 x3 (Prod.fst (val (v11 x0 x1 x2 x3))) (Prod.fst (Prod.snd (val (v11 x0 x1 x2 x3)))) (Prod.fst (val (v11 x2 x3 x0 x1))) (Prod.fst (Prod.snd (val (v11 x2 x3 x0 x1)))))))) none))) none) none)
theorem ev8 (x0 : Int) (x1 : Int) (x2 : Int) (x3 : Int) (x4 : Int) (x5 : Int) : fnBody Try.prog (mkTn base o26 t26 8) (TM.evF Try.prog (mkTn base o26 t26) dOk 40) dOk 40 8 [.agg [.int .i64 (x0), .int .i64 (x1)], .agg [.int .i64 (x2), .int .i64 (x3)], .sc (.int .u64 (x4)), .sc (.int .u64 (x5))] [] = (v8 x0 x1 x2 x3 x4 x5).bind fun r => some ([.sc (.bool (r))], []) := by
  have h : fnBody Try.prog (mkTn base o26 t26 8) (TM.evF Try.prog (mkTn base o26 t26) dOk 40) dOk 40 8 [.agg [.int .i64 (x0), .int .i64 (x1)], .agg [.int .i64 (x2), .int .i64 (x3)], .sc (.int .u64 (x4)), .sc (.int .u64 (x5))] [] = (cond (ok (v11 x0 x1 x2 x3)) (cond (ok (v11 x2 x3 x0 x1)) (cond (Prod.fst (val (v11 x0 x1 x2 x3)) == Prod.fst (val (v11 x2 x3 x0 x1)) && (Prod.fst (Prod.snd (val (v11 x0 x1 x2 x3))) == Prod.fst (Prod.snd (val (v11 x2 x3 x0 x1))) && true)) (cond (isL (L8_44_0 x4 x5 (Prod.snd (Prod.snd (val (v11 x0 x1 x2 x3))) == Prod.snd (Prod.snd (val (v11 x2 x3 x0 x1)))) x0 x1 x2 x3 (Prod.fst (val (v11 x0 x1 x2 x3))) (Prod.fst (Prod.snd (val (v11 x0 x1 x2 x3)))) (Prod.fst (val (v11 x2 x3 x0 x1))) (Prod.fst (Prod.snd (val (v11 x2 x3 x0 x1)))))) (some ([.sc (.bool (getL (L8_44_0 x4 x5 (Prod.snd (Prod.snd (val (v11 x0 x1 x2 x3))) == Prod.snd (Prod.snd (val (v11 x2 x3 x0 x1)))) x0 x1 x2 x3 (Prod.fst (val (v11 x0 x1 x2 x3))) (Prod.fst (Prod.snd (val (v11 x0 x1 x2 x3)))) (Prod.fst (val (v11 x2 x3 x0 x1))) (Prod.fst (Prod.snd (val (v11 x2 x3 x0 x1)))))))], [])) (cond (ok (getR (L8_44_0 x4 x5 (Prod.snd (Prod.snd (val (v11 x0 x1 x2 x3))) == Prod.snd (Prod.snd (val (v11 x2 x3 x0 x1)))) x0 x1 x2 x3 (Prod.fst (val (v11 x0 x1 x2 x3))) (Prod.fst (Prod.snd (val (v11 x0 x1 x2 x3)))) (Prod.fst (val (v11 x2 x3 x0 x1))) (Prod.fst (Prod.snd (val (v11 x2 x3 x0 x1))))))) (some ([.sc (.bool (val (getR (L8_44_0 x4 x5 (Prod.snd (Prod.snd (val (v11 x0 x1 x2 x3))) == Prod.snd (Prod.snd (val (v11 x2 x3 x0 x1)))) x0 x1 x2 x3 (Prod.fst (val (v11 x0 x1 x2 x3))) (Prod.fst (Prod.snd (val (v11 x0 x1 x2 x3)))) (Prod.fst (val (v11 x2 x3 x0 x1))) (Prod.fst (Prod.snd (val (v11 x2 x3 x0 x1))))))))], [])) none)) (cond (isL (L8_44_0 x4 x5 false x0 x1 x2 x3 (Prod.fst (val (v11 x0 x1 x2 x3))) (Prod.fst (Prod.snd (val (v11 x0 x1 x2 x3)))) (Prod.fst (val (v11 x2 x3 x0 x1))) (Prod.fst (Prod.snd (val (v11 x2 x3 x0 x1)))))) (some ([.sc (.bool (getL (L8_44_0 x4 x5 false x0 x1 x2 x3 (Prod.fst (val (v11 x0 x1 x2 x3))) (Prod.fst (Prod.snd (val (v11 x0 x1 x2 x3)))) (Prod.fst (val (v11 x2 x3 x0 x1))) (Prod.fst (Prod.snd (val (v11 x2 x3 x0 x1)))))))], [])) (cond (ok (getR (L8_44_0 x4 x5 false x0 x1 x2 x3 (Prod.fst (val (v11 x0 x1 x2 x3))) (Prod.fst (Prod.snd (val (v11 x0 x1 x2 x3)))) (Prod.fst (val (v11 x2 x3 x0 x1))) (Prod.fst (Prod.snd (val (v11 x2 x3 x0 x1))))))) (some ([.sc (.bool (val (getR (L8_44_0 x4 x5 false x0 x1 x2 x3 (Prod.fst (val (v11 x0 x1 x2 x3))) (Prod.fst (Prod.snd (val (v11 x0 x1 x2 x3)))) (Prod.fst (val (v11 x2 x3 x0 x1))) (Prod.fst (Prod.snd (val (v11 x2 x3 x0 x1))))))))], [])) none))) none) none) := by kernel_rfl
  rw [h]
  unfold v8
  cases (ok (v11 x0 x1 x2 x3)) with
  | true =>
    cases (ok (v11 x2 x3 x0 x1)) with
    | true =>
      cases (Prod.fst (val (v11 x0 x1 x2 x3)) == Prod.fst (val (v11 x2 x3 x0 x1)) && (Prod.fst (Prod.snd (val (v11 x0 x1 x2 x3))) == Prod.fst (Prod.snd (val (v11 x2 x3 x0 x1))) && true)) with
      | true =>
        cases (isL (L8_44_0 x4 x5 (Prod.snd (Prod.snd (val (v11 x0 x1 x2 x3))) == Prod.snd (Prod.snd (val (v11 x2 x3 x0 x1)))) x0 x1 x2 x3 (Prod.fst (val (v11 x0 x1 x2 x3))) (Prod.fst (Prod.snd (val (v11 x0 x1 x2 x3)))) (Prod.fst (val (v11 x2 x3 x0 x1))) (Prod.fst (Prod.snd (val (v11 x2 x3 x0 x1)))))) with
        | true =>
          rfl
        | false =>
          cases (ok (getR (L8_44_0 x4 x5 (Prod.snd (Prod.snd (val (v11 x0 x1 x2 x3))) == Prod.snd (Prod.snd (val (v11 x2 x3 x0 x1)))) x0 x1 x2 x3 (Prod.fst (val (v11 x0 x1 x2 x3))) (Prod.fst (Prod.snd (val (v11 x0 x1 x2 x3)))) (Prod.fst (val (v11 x2 x3 x0 x1))) (Prod.fst (Prod.snd (val (v11 x2 x3 x0 x1))))))) with
          | true =>
            rfl
          | false =>
            rfl
      | false =>
        cases (isL (L8_44_0 x4 x5 false x0 x1 x2 x3 (Prod.fst (val (v11 x0 x1 x2 x3))) (Prod.fst (Prod.snd (val (v11 x0 x1 x2 x3)))) (Prod.fst (val (v11 x2 x3 x0 x1))) (Prod.fst (Prod.snd (val (v11 x2 x3 x0 x1)))))) with
        | true =>
          rfl
        | false =>
          cases (ok (getR (L8_44_0 x4 x5 false x0 x1 x2 x3 (Prod.fst (val (v11 x0 x1 x2 x3))) (Prod.fst (Prod.snd (val (v11 x0 x1 x2 x3)))) (Prod.fst (val (v11 x2 x3 x0 x1))) (Prod.fst (Prod.snd (val (v11 x2 x3 x0 x1))))))) with
          | true =>
            rfl
          | false =>
            rfl
    | false =>
      rfl
  | false =>
    rfl
def sv8 : OrcS := fun al H => match al, H with
  | [.agg [.int .i64 (x0), .int .i64 (x1)], .agg [.int .i64 (x2), .int .i64 (x3)], .sc (.int .u64 (x4)), .sc (.int .u64 (x5))], [] => some (ok (v8 x0 x1 x2 x3 x4 x5), [.sc (.bool ((val (v8 x0 x1 x2 x3 x4 x5))))], [])
  | _, _ => none
theorem wv8 : NewOrc Try.prog dOk base o26 t26 (8, sv8) := by
  intro al H q hq hq1
  have hq : sv8 al H = some q := hq
  unfold sv8 at hq
  split at hq
  · cases hq
    exact ⟨41, (ev8 _ _ _ _ _ _).trans (ok_bind hq1)⟩
  · cases hq
/-- queuelablaw06.IntervalMatchesReference: the piece 68 -/
def L3_68_0 (x0 : Bool) (x1 : Int) (x2 : Int) (x3 : Int) (x4 : Int) (x5 : Int) (x6 : Int) (x7 : Int) (x8 : Int) : Option Bool := (cond (ok (v15 x1 x2 x3 x4)) (cond (ok (v16 x1 x2 x3 x4)) (cond (x0) (cond (Prod.fst (val (v15 x1 x2 x3 x4)) == Prod.fst (val (v16 x1 x2 x3 x4)) && (Prod.fst (Prod.snd (val (v15 x1 x2 x3 x4))) == Prod.fst (Prod.snd (val (v16 x1 x2 x3 x4))) && true)) (cond (ok (L3_92_0 (Prod.snd (Prod.snd (val (v15 x1 x2 x3 x4))) == Prod.snd (Prod.snd (val (v16 x1 x2 x3 x4)))) x1 x2 x3 x4 (Prod.fst (val (v15 x1 x2 x3 x4))) (Prod.fst (Prod.snd (val (v15 x1 x2 x3 x4)))) (Prod.fst (val (v16 x1 x2 x3 x4))) (Prod.fst (Prod.snd (val (v16 x1 x2 x3 x4)))))) (some (val (L3_92_0 (Prod.snd (Prod.snd (val (v15 x1 x2 x3 x4))) == Prod.snd (Prod.snd (val (v16 x1 x2 x3 x4)))) x1 x2 x3 x4 (Prod.fst (val (v15 x1 x2 x3 x4))) (Prod.fst (Prod.snd (val (v15 x1 x2 x3 x4)))) (Prod.fst (val (v16 x1 x2 x3 x4))) (Prod.fst (Prod.snd (val (v16 x1 x2 x3 x4))))))) none) (cond (ok (L3_92_0 false x1 x2 x3 x4 (Prod.fst (val (v15 x1 x2 x3 x4))) (Prod.fst (Prod.snd (val (v15 x1 x2 x3 x4)))) (Prod.fst (val (v16 x1 x2 x3 x4))) (Prod.fst (Prod.snd (val (v16 x1 x2 x3 x4)))))) (some (val (L3_92_0 false x1 x2 x3 x4 (Prod.fst (val (v15 x1 x2 x3 x4))) (Prod.fst (Prod.snd (val (v15 x1 x2 x3 x4)))) (Prod.fst (val (v16 x1 x2 x3 x4))) (Prod.fst (Prod.snd (val (v16 x1 x2 x3 x4))))))) none)) (cond (ok (L3_92_0 false x1 x2 x3 x4 (Prod.fst (val (v15 x1 x2 x3 x4))) (Prod.fst (Prod.snd (val (v15 x1 x2 x3 x4)))) (Prod.fst (val (v16 x1 x2 x3 x4))) (Prod.fst (Prod.snd (val (v16 x1 x2 x3 x4)))))) (some (val (L3_92_0 false x1 x2 x3 x4 (Prod.fst (val (v15 x1 x2 x3 x4))) (Prod.fst (Prod.snd (val (v15 x1 x2 x3 x4)))) (Prod.fst (val (v16 x1 x2 x3 x4))) (Prod.fst (Prod.snd (val (v16 x1 x2 x3 x4))))))) none)) none) none)
def xL3_68_0 (x0 : Bool) (x1 : Int) (x2 : Int) (x3 : Int) (x4 : Int) (x5 : Int) (x6 : Int) (x7 : Int) (x8 : Int) : Bool → Ex × CS := fun r => (.ret, { sl := [(2, .l 2 0), (3, .l 3 0), (4, .v (.sc (.bool (r)))), (6, .l 6 0), (8, .l 8 0)], lo := [], h := [], n0 := 0 })
theorem bL3_68_0 (k : Nat) (cX : Ex → CS → Option (Ex × CS)) (x0 : Bool) (x1 : Int) (x2 : Int) (x3 : Int) (x4 : Int) (x5 : Int) (x6 : Int) (x7 : Int) (x8 : Int) : pieceBody Try.prog (mkTn base o26 t26 3) (TM.evF Try.prog (mkTn base o26 t26) dOk (k + 40)) dOk (k + 40) (codeAt Try.prog (tn0 3) 3 68) 0 68 { sl := [(2, .l 2 0), (3, .l 3 0), (5, .v (.sc (.bool (x0)))), (6, .l 6 0), (8, .l 8 0)], lo := [(2, [.int .i64 (x1), .int .i64 (x2)]), (3, [.int .i64 (x3), .int .i64 (x4)]), (6, [.int .i64 (x5), .int .i64 (x6)]), (8, [.int .i64 (x7), .int .i64 (x8)])], h := [], n0 := 0 } cX = (cond (ok (v15 x1 x2 x3 x4)) (cond (ok (v16 x1 x2 x3 x4)) (cond (x0) (cond (Prod.fst (val (v15 x1 x2 x3 x4)) == Prod.fst (val (v16 x1 x2 x3 x4)) && (Prod.fst (Prod.snd (val (v15 x1 x2 x3 x4))) == Prod.fst (Prod.snd (val (v16 x1 x2 x3 x4))) && true)) (cond (ok (L3_92_0 (Prod.snd (Prod.snd (val (v15 x1 x2 x3 x4))) == Prod.snd (Prod.snd (val (v16 x1 x2 x3 x4)))) x1 x2 x3 x4 (Prod.fst (val (v15 x1 x2 x3 x4))) (Prod.fst (Prod.snd (val (v15 x1 x2 x3 x4)))) (Prod.fst (val (v16 x1 x2 x3 x4))) (Prod.fst (Prod.snd (val (v16 x1 x2 x3 x4)))))) (cX .ret { sl := [(2, .l 2 0), (3, .l 3 0), (4, .v (.sc (.bool (val (L3_92_0 (Prod.snd (Prod.snd (val (v15 x1 x2 x3 x4))) == Prod.snd (Prod.snd (val (v16 x1 x2 x3 x4)))) x1 x2 x3 x4 (Prod.fst (val (v15 x1 x2 x3 x4))) (Prod.fst (Prod.snd (val (v15 x1 x2 x3 x4)))) (Prod.fst (val (v16 x1 x2 x3 x4))) (Prod.fst (Prod.snd (val (v16 x1 x2 x3 x4))))))))), (6, .l 6 0), (8, .l 8 0)], lo := [], h := [], n0 := 0 }) none) (cond (ok (L3_92_0 false x1 x2 x3 x4 (Prod.fst (val (v15 x1 x2 x3 x4))) (Prod.fst (Prod.snd (val (v15 x1 x2 x3 x4)))) (Prod.fst (val (v16 x1 x2 x3 x4))) (Prod.fst (Prod.snd (val (v16 x1 x2 x3 x4)))))) (cX .ret { sl := [(2, .l 2 0), (3, .l 3 0), (4, .v (.sc (.bool (val (L3_92_0 false x1 x2 x3 x4 (Prod.fst (val (v15 x1 x2 x3 x4))) (Prod.fst (Prod.snd (val (v15 x1 x2 x3 x4)))) (Prod.fst (val (v16 x1 x2 x3 x4))) (Prod.fst (Prod.snd (val (v16 x1 x2 x3 x4))))))))), (6, .l 6 0), (8, .l 8 0)], lo := [], h := [], n0 := 0 }) none)) (cond (ok (L3_92_0 false x1 x2 x3 x4 (Prod.fst (val (v15 x1 x2 x3 x4))) (Prod.fst (Prod.snd (val (v15 x1 x2 x3 x4)))) (Prod.fst (val (v16 x1 x2 x3 x4))) (Prod.fst (Prod.snd (val (v16 x1 x2 x3 x4)))))) (cX .ret { sl := [(2, .l 2 0), (3, .l 3 0), (4, .v (.sc (.bool (val (L3_92_0 false x1 x2 x3 x4 (Prod.fst (val (v15 x1 x2 x3 x4))) (Prod.fst (Prod.snd (val (v15 x1 x2 x3 x4)))) (Prod.fst (val (v16 x1 x2 x3 x4))) (Prod.fst (Prod.snd (val (v16 x1 x2 x3 x4))))))))), (6, .l 6 0), (8, .l 8 0)], lo := [], h := [], n0 := 0 }) none)) none) none) := by kernel_rfl
theorem lL3_68_0 (k : Nat) (x0 : Bool) (x1 : Int) (x2 : Int) (x3 : Int) (x4 : Int) (x5 : Int) (x6 : Int) (x7 : Int) (x8 : Int) (r : Bool) : L3_68_0 x0 x1 x2 x3 x4 x5 x6 x7 x8 = some r → pieceBody Try.prog (mkTn base o26 t26 3) (TM.evF Try.prog (mkTn base o26 t26) dOk (k + 40)) dOk (k + 40) (codeAt Try.prog (tn0 3) 3 68) 0 68 { sl := [(2, .l 2 0), (3, .l 3 0), (5, .v (.sc (.bool (x0)))), (6, .l 6 0), (8, .l 8 0)], lo := [(2, [.int .i64 (x1), .int .i64 (x2)]), (3, [.int .i64 (x3), .int .i64 (x4)]), (6, [.int .i64 (x5), .int .i64 (x6)]), (8, [.int .i64 (x7), .int .i64 (x8)])], h := [], n0 := 0 } (fun e s => some (e, s)) = some (xL3_68_0 x0 x1 x2 x3 x4 x5 x6 x7 x8 r) := by
  rw [bL3_68_0]
  unfold L3_68_0
  cases (ok (v15 x1 x2 x3 x4)) with
  | true =>
    cases (ok (v16 x1 x2 x3 x4)) with
    | true =>
      cases x0 with
      | true =>
        cases (Prod.fst (val (v15 x1 x2 x3 x4)) == Prod.fst (val (v16 x1 x2 x3 x4)) && (Prod.fst (Prod.snd (val (v15 x1 x2 x3 x4))) == Prod.fst (Prod.snd (val (v16 x1 x2 x3 x4))) && true)) with
        | true =>
          cases (ok (L3_92_0 (Prod.snd (Prod.snd (val (v15 x1 x2 x3 x4))) == Prod.snd (Prod.snd (val (v16 x1 x2 x3 x4)))) x1 x2 x3 x4 (Prod.fst (val (v15 x1 x2 x3 x4))) (Prod.fst (Prod.snd (val (v15 x1 x2 x3 x4)))) (Prod.fst (val (v16 x1 x2 x3 x4))) (Prod.fst (Prod.snd (val (v16 x1 x2 x3 x4)))))) with
          | true =>
            intro h; cases h; rfl
          | false =>
            intro h; cases h
        | false =>
          cases (ok (L3_92_0 false x1 x2 x3 x4 (Prod.fst (val (v15 x1 x2 x3 x4))) (Prod.fst (Prod.snd (val (v15 x1 x2 x3 x4)))) (Prod.fst (val (v16 x1 x2 x3 x4))) (Prod.fst (Prod.snd (val (v16 x1 x2 x3 x4)))))) with
          | true =>
            intro h; cases h; rfl
          | false =>
            intro h; cases h
      | false =>
        cases (ok (L3_92_0 false x1 x2 x3 x4 (Prod.fst (val (v15 x1 x2 x3 x4))) (Prod.fst (Prod.snd (val (v15 x1 x2 x3 x4)))) (Prod.fst (val (v16 x1 x2 x3 x4))) (Prod.fst (Prod.snd (val (v16 x1 x2 x3 x4)))))) with
        | true =>
          intro h; cases h; rfl
        | false =>
          intro h; cases h
    | false =>
      intro h; cases h
  | false =>
    intro h; cases h
def sL3_68_0 : TellS := fun S => match S with
  | { sl := [(2, .l 2 0), (3, .l 3 0), (5, .v (.sc (.bool (x0)))), (6, .l 6 0), (8, .l 8 0)], lo := [(2, [.int .i64 (x1), .int .i64 (x2)]), (3, [.int .i64 (x3), .int .i64 (x4)]), (6, [.int .i64 (x5), .int .i64 (x6)]), (8, [.int .i64 (x7), .int .i64 (x8)])], h := [], n0 := 0 } => some [(ok (L3_68_0 x0 x1 x2 x3 x4 x5 x6 x7 x8), .ret, { sl := [(2, .l 2 0), (3, .l 3 0), (4, .v (.sc (.bool ((val (L3_68_0 x0 x1 x2 x3 x4 x5 x6 x7 x8)))))), (6, .l 6 0), (8, .l 8 0)], lo := [], h := [], n0 := 0 })]
  | _ => none
theorem wL3_68_0 : NewTell Try.prog dOk base o26 t26 ((3, 68), sL3_68_0) := by
  refine ⟨(codeAt Try.prog (tn0 3) 3 68), 0, by kernel_rfl, ?_⟩
  intro S alts e S' h1 h2
  have h1 : sL3_68_0 S = some alts := h1
  unfold sL3_68_0 at h1
  split at h1
  · cases h1
    obtain ⟨hc0, rfl, rfl⟩ := pick_one h2
    exact ⟨0 + 40, (evPiece_code rfl).trans (lL3_68_0 0 _ _ _ _ _ _ _ _ _ _ (ok_val hc0))⟩
  · cases h1
/-- queuelablaw06.IntervalLeast: the piece 188 -/
def L5_188_0 (x0 : Bool) (x1 : Bool) (x2 : Int) (x3 : Bool) (x4 : Bool) (x5 : Int) (x6 : Int) (x7 : Int) (x8 : Int) (x9 : Int) (x10 : Int) (x11 : Int) : Option Bool := (cond (ok (L5_24_0 FU x0 x1 x2 x3 x4 x5 (↑(List.length [x6, x7]) : Int) (0 : Int) x6 x7 x8 x9 x10 x11 [x6, x7])) (cond (x0) (cond (Prod.fst (val (L5_24_0 FU x0 x1 x2 x3 x4 x5 (↑(List.length [x6, x7]) : Int) (0 : Int) x6 x7 x8 x9 x10 x11 [x6, x7]))) (some (Prod.snd (val (L5_24_0 FU x0 x1 x2 x3 x4 x5 (↑(List.length [x6, x7]) : Int) (0 : Int) x6 x7 x8 x9 x10 x11 [x6, x7])))) (some (false))) (some (false))) none)
def xL5_188_0 (x0 : Bool) (x1 : Bool) (x2 : Int) (x3 : Bool) (x4 : Bool) (x5 : Int) (x6 : Int) (x7 : Int) (x8 : Int) (x9 : Int) (x10 : Int) (x11 : Int) : Bool → Ex × CS := fun r => (.normal, { sl := [(2, .l 2 0), (3, .l 3 0), (5, .v (.sc (.bool (r)))), (6, .v (.sc (.bool (x1)))), (8, .l 8 0), (35, .v (.sc (.int .i64 (x5))))], lo := [(2, [.int .i64 (x6), .int .i64 (x7)]), (3, [.int .i64 (x8), .int .i64 (x9)])], h := [], n0 := 0 })
theorem bL5_188_0 (k : Nat) (cX : Ex → CS → Option (Ex × CS)) (x0 : Bool) (x1 : Bool) (x2 : Int) (x3 : Bool) (x4 : Bool) (x5 : Int) (x6 : Int) (x7 : Int) (x8 : Int) (x9 : Int) (x10 : Int) (x11 : Int) : pieceBody Try.prog (mkTn base o26 t26 5) (TM.evF Try.prog (mkTn base o26 t26) dOk (k + 40)) dOk (k + 40) (codeAt Try.prog (tn0 5) 5 188) 1 188 { sl := [(2, .l 2 0), (3, .l 3 0), (5, .v (.sc (.bool (x0)))), (6, .v (.sc (.bool (x1)))), (7, .v (.sc (.int .i64 (x2)))), (8, .l 8 0), (10, .v (.sc (.bool (x3)))), (11, .v (.sc (.bool (x4)))), (35, .v (.sc (.int .i64 (x5))))], lo := [(2, [.int .i64 (x6), .int .i64 (x7)]), (3, [.int .i64 (x8), .int .i64 (x9)]), (8, [.int .i64 (x10), .int .i64 (x11)])], h := [], n0 := 0 } cX = (cond (ok (L5_24_0 FU x0 x1 x2 x3 x4 x5 (↑(List.length [x6, x7]) : Int) (0 : Int) x6 x7 x8 x9 x10 x11 [x6, x7])) (cond (x0) (cond (Prod.fst (val (L5_24_0 FU x0 x1 x2 x3 x4 x5 (↑(List.length [x6, x7]) : Int) (0 : Int) x6 x7 x8 x9 x10 x11 [x6, x7]))) (cX .normal { sl := [(2, .l 2 0), (3, .l 3 0), (5, .v (.sc (.bool (Prod.snd (val (L5_24_0 FU x0 x1 x2 x3 x4 x5 (↑(List.length [x6, x7]) : Int) (0 : Int) x6 x7 x8 x9 x10 x11 [x6, x7])))))), (6, .v (.sc (.bool (x1)))), (8, .l 8 0), (35, .v (.sc (.int .i64 (x5))))], lo := [(2, [.int .i64 (x6), .int .i64 (x7)]), (3, [.int .i64 (x8), .int .i64 (x9)])], h := [], n0 := 0 }) (cX .normal { sl := [(2, .l 2 0), (3, .l 3 0), (5, .v (.sc (.bool (false)))), (6, .v (.sc (.bool (x1)))), (8, .l 8 0), (35, .v (.sc (.int .i64 (x5))))], lo := [(2, [.int .i64 (x6), .int .i64 (x7)]), (3, [.int .i64 (x8), .int .i64 (x9)])], h := [], n0 := 0 })) (cX .normal { sl := [(2, .l 2 0), (3, .l 3 0), (5, .v (.sc (.bool (false)))), (6, .v (.sc (.bool (x1)))), (8, .l 8 0), (35, .v (.sc (.int .i64 (x5))))], lo := [(2, [.int .i64 (x6), .int .i64 (x7)]), (3, [.int .i64 (x8), .int .i64 (x9)])], h := [], n0 := 0 })) none) := by kernel_rfl
theorem lL5_188_0 (k : Nat) (x0 : Bool) (x1 : Bool) (x2 : Int) (x3 : Bool) (x4 : Bool) (x5 : Int) (x6 : Int) (x7 : Int) (x8 : Int) (x9 : Int) (x10 : Int) (x11 : Int) (r : Bool) : L5_188_0 x0 x1 x2 x3 x4 x5 x6 x7 x8 x9 x10 x11 = some r → pieceBody Try.prog (mkTn base o26 t26 5) (TM.evF Try.prog (mkTn base o26 t26) dOk (k + 40)) dOk (k + 40) (codeAt Try.prog (tn0 5) 5 188) 1 188 { sl := [(2, .l 2 0), (3, .l 3 0), (5, .v (.sc (.bool (x0)))), (6, .v (.sc (.bool (x1)))), (7, .v (.sc (.int .i64 (x2)))), (8, .l 8 0), (10, .v (.sc (.bool (x3)))), (11, .v (.sc (.bool (x4)))), (35, .v (.sc (.int .i64 (x5))))], lo := [(2, [.int .i64 (x6), .int .i64 (x7)]), (3, [.int .i64 (x8), .int .i64 (x9)]), (8, [.int .i64 (x10), .int .i64 (x11)])], h := [], n0 := 0 } (fun e s => some (e, s)) = some (xL5_188_0 x0 x1 x2 x3 x4 x5 x6 x7 x8 x9 x10 x11 r) := by
  rw [bL5_188_0]
  unfold L5_188_0
  cases (ok (L5_24_0 FU x0 x1 x2 x3 x4 x5 (↑(List.length [x6, x7]) : Int) (0 : Int) x6 x7 x8 x9 x10 x11 [x6, x7])) with
  | true =>
    cases x0 with
    | true =>
      cases (Prod.fst (val (L5_24_0 FU true x1 x2 x3 x4 x5 (↑(List.length [x6, x7]) : Int) (0 : Int) x6 x7 x8 x9 x10 x11 [x6, x7]))) with
      | true =>
        intro h; cases h; rfl
      | false =>
        intro h; cases h; rfl
    | false =>
      intro h; cases h; rfl
  | false =>
    intro h; cases h
def sL5_188_0 : TellS := fun S => match S with
  | { sl := [(2, .l 2 0), (3, .l 3 0), (5, .v (.sc (.bool (x0)))), (6, .v (.sc (.bool (x1)))), (7, .v (.sc (.int .i64 (x2)))), (8, .l 8 0), (10, .v (.sc (.bool (x3)))), (11, .v (.sc (.bool (x4)))), (35, .v (.sc (.int .i64 (x5))))], lo := [(2, [.int .i64 (x6), .int .i64 (x7)]), (3, [.int .i64 (x8), .int .i64 (x9)]), (8, [.int .i64 (x10), .int .i64 (x11)])], h := [], n0 := 0 } => some [(ok (L5_188_0 x0 x1 x2 x3 x4 x5 x6 x7 x8 x9 x10 x11), .normal, { sl := [(2, .l 2 0), (3, .l 3 0), (5, .v (.sc (.bool ((val (L5_188_0 x0 x1 x2 x3 x4 x5 x6 x7 x8 x9 x10 x11)))))), (6, .v (.sc (.bool (x1)))), (8, .l 8 0), (35, .v (.sc (.int .i64 (x5))))], lo := [(2, [.int .i64 (x6), .int .i64 (x7)]), (3, [.int .i64 (x8), .int .i64 (x9)])], h := [], n0 := 0 })]
  | _ => none
theorem wL5_188_0 : NewTell Try.prog dOk base o26 t26 ((5, 188), sL5_188_0) := by
  refine ⟨(codeAt Try.prog (tn0 5) 5 188), 1, by kernel_rfl, ?_⟩
  intro S alts e S' h1 h2
  have h1 : sL5_188_0 S = some alts := h1
  unfold sL5_188_0 at h1
  split at h1
  · cases h1
    obtain ⟨hc0, rfl, rfl⟩ := pick_one h2
    exact ⟨0 + 40, (evPiece_code rfl).trans (lL5_188_0 0 _ _ _ _ _ _ _ _ _ _ _ _ _ (ok_val hc0))⟩
  · cases h1
/-- queuelablaw06.IntervalNarrower: the piece 164 -/
def L6_164_0 (x0 : Bool) (x1 : Int) (x2 : Int) (x3 : Int) (x4 : Int) (x5 : Int) (x6 : Int) (x7 : Int) (x8 : Int) (x9 : Int) (x10 : Int) (x11 : Int) (x12 : Int) : Option Bool := (cond (ok (v21 x5 x6 x7 x8)) (cond (ok (v21 x1 x2 x3 x4)) (cond (x0) (cond (ok (v33 (Prod.fst (val (v21 x5 x6 x7 x8))) (Prod.fst (Prod.snd (val (v21 x5 x6 x7 x8)))) (Prod.snd (Prod.snd (val (v21 x5 x6 x7 x8)))) (Prod.fst (val (v21 x1 x2 x3 x4))) (Prod.fst (Prod.snd (val (v21 x1 x2 x3 x4)))) (Prod.snd (Prod.snd (val (v21 x1 x2 x3 x4)))))) (cond (ok (L6_188_0 (val (v33 (Prod.fst (val (v21 x5 x6 x7 x8))) (Prod.fst (Prod.snd (val (v21 x5 x6 x7 x8)))) (Prod.snd (Prod.snd (val (v21 x5 x6 x7 x8)))) (Prod.fst (val (v21 x1 x2 x3 x4))) (Prod.fst (Prod.snd (val (v21 x1 x2 x3 x4)))) (Prod.snd (Prod.snd (val (v21 x1 x2 x3 x4)))))) x1 x2 x3 x4 x5 x6 x7 x8 (Prod.fst (val (v21 x5 x6 x7 x8))) (Prod.fst (Prod.snd (val (v21 x5 x6 x7 x8)))) (Prod.fst (val (v21 x1 x2 x3 x4))) (Prod.fst (Prod.snd (val (v21 x1 x2 x3 x4)))))) (some (val (L6_188_0 (val (v33 (Prod.fst (val (v21 x5 x6 x7 x8))) (Prod.fst (Prod.snd (val (v21 x5 x6 x7 x8)))) (Prod.snd (Prod.snd (val (v21 x5 x6 x7 x8)))) (Prod.fst (val (v21 x1 x2 x3 x4))) (Prod.fst (Prod.snd (val (v21 x1 x2 x3 x4)))) (Prod.snd (Prod.snd (val (v21 x1 x2 x3 x4)))))) x1 x2 x3 x4 x5 x6 x7 x8 (Prod.fst (val (v21 x5 x6 x7 x8))) (Prod.fst (Prod.snd (val (v21 x5 x6 x7 x8)))) (Prod.fst (val (v21 x1 x2 x3 x4))) (Prod.fst (Prod.snd (val (v21 x1 x2 x3 x4))))))) none) none) (cond (ok (L6_188_0 false x1 x2 x3 x4 x5 x6 x7 x8 (Prod.fst (val (v21 x5 x6 x7 x8))) (Prod.fst (Prod.snd (val (v21 x5 x6 x7 x8)))) (Prod.fst (val (v21 x1 x2 x3 x4))) (Prod.fst (Prod.snd (val (v21 x1 x2 x3 x4)))))) (some (val (L6_188_0 false x1 x2 x3 x4 x5 x6 x7 x8 (Prod.fst (val (v21 x5 x6 x7 x8))) (Prod.fst (Prod.snd (val (v21 x5 x6 x7 x8)))) (Prod.fst (val (v21 x1 x2 x3 x4))) (Prod.fst (Prod.snd (val (v21 x1 x2 x3 x4))))))) none)) none) none)
def xL6_164_0 (x0 : Bool) (x1 : Int) (x2 : Int) (x3 : Int) (x4 : Int) (x5 : Int) (x6 : Int) (x7 : Int) (x8 : Int) (x9 : Int) (x10 : Int) (x11 : Int) (x12 : Int) : Bool → Ex × CS := fun r => (.ret, { sl := [(6, .l 6 0), (7, .l 7 0), (12, .v (.sc (.bool (r)))), (14, .l 14 0), (15, .l 15 0), (16, .l 16 0), (18, .l 18 0)], lo := [], h := [], n0 := 0 })
theorem bL6_164_0 (k : Nat) (cX : Ex → CS → Option (Ex × CS)) (x0 : Bool) (x1 : Int) (x2 : Int) (x3 : Int) (x4 : Int) (x5 : Int) (x6 : Int) (x7 : Int) (x8 : Int) (x9 : Int) (x10 : Int) (x11 : Int) (x12 : Int) : pieceBody Try.prog (mkTn base o26 t26 6) (TM.evF Try.prog (mkTn base o26 t26) dOk (k + 40)) dOk (k + 40) (codeAt Try.prog (tn0 6) 6 164) 0 164 { sl := [(6, .l 6 0), (7, .l 7 0), (13, .v (.sc (.bool (x0)))), (14, .l 14 0), (15, .l 15 0), (16, .l 16 0), (18, .l 18 0)], lo := [(6, [.int .i64 (x1), .int .i64 (x2)]), (7, [.int .i64 (x3), .int .i64 (x4)]), (14, [.int .i64 (x5), .int .i64 (x6)]), (15, [.int .i64 (x7), .int .i64 (x8)]), (16, [.int .i64 (x9), .int .i64 (x10)]), (18, [.int .i64 (x11), .int .i64 (x12)])], h := [], n0 := 0 } cX = (cond (ok (v21 x5 x6 x7 x8)) (cond (ok (v21 x1 x2 x3 x4)) (cond (x0) (cond (ok (v33 (Prod.fst (val (v21 x5 x6 x7 x8))) (Prod.fst (Prod.snd (val (v21 x5 x6 x7 x8)))) (Prod.snd (Prod.snd (val (v21 x5 x6 x7 x8)))) (Prod.fst (val (v21 x1 x2 x3 x4))) (Prod.fst (Prod.snd (val (v21 x1 x2 x3 x4)))) (Prod.snd (Prod.snd (val (v21 x1 x2 x3 x4)))))) (cond (ok (L6_188_0 (val (v33 (Prod.fst (val (v21 x5 x6 x7 x8))) (Prod.fst (Prod.snd (val (v21 x5 x6 x7 x8)))) (Prod.snd (Prod.snd (val (v21 x5 x6 x7 x8)))) (Prod.fst (val (v21 x1 x2 x3 x4))) (Prod.fst (Prod.snd (val (v21 x1 x2 x3 x4)))) (Prod.snd (Prod.snd (val (v21 x1 x2 x3 x4)))))) x1 x2 x3 x4 x5 x6 x7 x8 (Prod.fst (val (v21 x5 x6 x7 x8))) (Prod.fst (Prod.snd (val (v21 x5 x6 x7 x8)))) (Prod.fst (val (v21 x1 x2 x3 x4))) (Prod.fst (Prod.snd (val (v21 x1 x2 x3 x4)))))) (cX .ret { sl := [(6, .l 6 0), (7, .l 7 0), (12, .v (.sc (.bool (val (L6_188_0 (val (v33 (Prod.fst (val (v21 x5 x6 x7 x8))) (Prod.fst (Prod.snd (val (v21 x5 x6 x7 x8)))) (Prod.snd (Prod.snd (val (v21 x5 x6 x7 x8)))) (Prod.fst (val (v21 x1 x2 x3 x4))) (Prod.fst (Prod.snd (val (v21 x1 x2 x3 x4)))) (Prod.snd (Prod.snd (val (v21 x1 x2 x3 x4)))))) x1 x2 x3 x4 x5 x6 x7 x8 (Prod.fst (val (v21 x5 x6 x7 x8))) (Prod.fst (Prod.snd (val (v21 x5 x6 x7 x8)))) (Prod.fst (val (v21 x1 x2 x3 x4))) (Prod.fst (Prod.snd (val (v21 x1 x2 x3 x4))))))))), (14, .l 14 0), (15, .l 15 0), (16, .l 16 0), (18, .l 18 0)], lo := [], h := [], n0 := 0 }) none) none) (cond (ok (L6_188_0 false x1 x2 x3 x4 x5 x6 x7 x8 (Prod.fst (val (v21 x5 x6 x7 x8))) (Prod.fst (Prod.snd (val (v21 x5 x6 x7 x8)))) (Prod.fst (val (v21 x1 x2 x3 x4))) (Prod.fst (Prod.snd (val (v21 x1 x2 x3 x4)))))) (cX .ret { sl := [(6, .l 6 0), (7, .l 7 0), (12, .v (.sc (.bool (val (L6_188_0 false x1 x2 x3 x4 x5 x6 x7 x8 (Prod.fst (val (v21 x5 x6 x7 x8))) (Prod.fst (Prod.snd (val (v21 x5 x6 x7 x8)))) (Prod.fst (val (v21 x1 x2 x3 x4))) (Prod.fst (Prod.snd (val (v21 x1 x2 x3 x4))))))))), (14, .l 14 0), (15, .l 15 0), (16, .l 16 0), (18, .l 18 0)], lo := [], h := [], n0 := 0 }) none)) none) none) := by kernel_rfl
theorem lL6_164_0 (k : Nat) (x0 : Bool) (x1 : Int) (x2 : Int) (x3 : Int) (x4 : Int) (x5 : Int) (x6 : Int) (x7 : Int) (x8 : Int) (x9 : Int) (x10 : Int) (x11 : Int) (x12 : Int) (r : Bool) : L6_164_0 x0 x1 x2 x3 x4 x5 x6 x7 x8 x9 x10 x11 x12 = some r → pieceBody Try.prog (mkTn base o26 t26 6) (TM.evF Try.prog (mkTn base o26 t26) dOk (k + 40)) dOk (k + 40) (codeAt Try.prog (tn0 6) 6 164) 0 164 { sl := [(6, .l 6 0), (7, .l 7 0), (13, .v (.sc (.bool (x0)))), (14, .l 14 0), (15, .l 15 0), (16, .l 16 0), (18, .l 18 0)], lo := [(6, [.int .i64 (x1), .int .i64 (x2)]), (7, [.int .i64 (x3), .int .i64 (x4)]), (14, [.int .i64 (x5), .int .i64 (x6)]), (15, [.int .i64 (x7), .int .i64 (x8)]), (16, [.int .i64 (x9), .int .i64 (x10)]), (18, [.int .i64 (x11), .int .i64 (x12)])], h := [], n0 := 0 } (fun e s => some (e, s)) = some (xL6_164_0 x0 x1 x2 x3 x4 x5 x6 x7 x8 x9 x10 x11 x12 r) := by
  rw [bL6_164_0]
  unfold L6_164_0
  cases (ok (v21 x5 x6 x7 x8)) with
  | true =>
    cases (ok (v21 x1 x2 x3 x4)) with
    | true =>
      cases x0 with
      | true =>
        cases (ok (v33 (Prod.fst (val (v21 x5 x6 x7 x8))) (Prod.fst (Prod.snd (val (v21 x5 x6 x7 x8)))) (Prod.snd (Prod.snd (val (v21 x5 x6 x7 x8)))) (Prod.fst (val (v21 x1 x2 x3 x4))) (Prod.fst (Prod.snd (val (v21 x1 x2 x3 x4)))) (Prod.snd (Prod.snd (val (v21 x1 x2 x3 x4)))))) with
        | true =>
          cases (ok (L6_188_0 (val (v33 (Prod.fst (val (v21 x5 x6 x7 x8))) (Prod.fst (Prod.snd (val (v21 x5 x6 x7 x8)))) (Prod.snd (Prod.snd (val (v21 x5 x6 x7 x8)))) (Prod.fst (val (v21 x1 x2 x3 x4))) (Prod.fst (Prod.snd (val (v21 x1 x2 x3 x4)))) (Prod.snd (Prod.snd (val (v21 x1 x2 x3 x4)))))) x1 x2 x3 x4 x5 x6 x7 x8 (Prod.fst (val (v21 x5 x6 x7 x8))) (Prod.fst (Prod.snd (val (v21 x5 x6 x7 x8)))) (Prod.fst (val (v21 x1 x2 x3 x4))) (Prod.fst (Prod.snd (val (v21 x1 x2 x3 x4)))))) with
          | true =>
            intro h; cases h; rfl
          | false =>
            intro h; cases h
        | false =>
          intro h; cases h
      | false =>
        cases (ok (L6_188_0 false x1 x2 x3 x4 x5 x6 x7 x8 (Prod.fst (val (v21 x5 x6 x7 x8))) (Prod.fst (Prod.snd (val (v21 x5 x6 x7 x8)))) (Prod.fst (val (v21 x1 x2 x3 x4))) (Prod.fst (Prod.snd (val (v21 x1 x2 x3 x4)))))) with
        | true =>
          intro h; cases h; rfl
        | false =>
          intro h; cases h
    | false =>
      intro h; cases h
  | false =>
    intro h; cases h
def sL6_164_0 : TellS := fun S => match S with
  | { sl := [(6, .l 6 0), (7, .l 7 0), (13, .v (.sc (.bool (x0)))), (14, .l 14 0), (15, .l 15 0), (16, .l 16 0), (18, .l 18 0)], lo := [(6, [.int .i64 (x1), .int .i64 (x2)]), (7, [.int .i64 (x3), .int .i64 (x4)]), (14, [.int .i64 (x5), .int .i64 (x6)]), (15, [.int .i64 (x7), .int .i64 (x8)]), (16, [.int .i64 (x9), .int .i64 (x10)]), (18, [.int .i64 (x11), .int .i64 (x12)])], h := [], n0 := 0 } => some [(ok (L6_164_0 x0 x1 x2 x3 x4 x5 x6 x7 x8 x9 x10 x11 x12), .ret, { sl := [(6, .l 6 0), (7, .l 7 0), (12, .v (.sc (.bool ((val (L6_164_0 x0 x1 x2 x3 x4 x5 x6 x7 x8 x9 x10 x11 x12)))))), (14, .l 14 0), (15, .l 15 0), (16, .l 16 0), (18, .l 18 0)], lo := [], h := [], n0 := 0 })]
  | _ => none
theorem wL6_164_0 : NewTell Try.prog dOk base o26 t26 ((6, 164), sL6_164_0) := by
  refine ⟨(codeAt Try.prog (tn0 6) 6 164), 0, by kernel_rfl, ?_⟩
  intro S alts e S' h1 h2
  have h1 : sL6_164_0 S = some alts := h1
  unfold sL6_164_0 at h1
  split at h1
  · cases h1
    obtain ⟨hc0, rfl, rfl⟩ := pick_one h2
    exact ⟨0 + 40, (evPiece_code rfl).trans (lL6_164_0 0 _ _ _ _ _ _ _ _ _ _ _ _ _ _ (ok_val hc0))⟩
  · cases h1
/-- queuelablaw06.IntervalContains: the piece 156 -/
def L4_156_0 (x0 : Bool) (x1 : Int) (x2 : Int) (x3 : Int) (x4 : Int) (x5 : Int) (x6 : Int) (x7 : Int) (x8 : Int) : Option Bool := (cond (ok (v17 x3 x4 x5 x6)) (cond (x0) (cond (ok (v31 x1 x2)) (cond (ok (v30 (Prod.fst (val (v17 x3 x4 x5 x6))) (Prod.fst (Prod.snd (val (v17 x3 x4 x5 x6)))) (Prod.snd (Prod.snd (val (v17 x3 x4 x5 x6)))) (val (v31 x1 x2)))) (cond (ok (L4_172_0 (val (v30 (Prod.fst (val (v17 x3 x4 x5 x6))) (Prod.fst (Prod.snd (val (v17 x3 x4 x5 x6)))) (Prod.snd (Prod.snd (val (v17 x3 x4 x5 x6)))) (val (v31 x1 x2)))) x1 x2 x3 x4 x5 x6 (Prod.fst (val (v17 x3 x4 x5 x6))) (Prod.fst (Prod.snd (val (v17 x3 x4 x5 x6)))))) (some (val (L4_172_0 (val (v30 (Prod.fst (val (v17 x3 x4 x5 x6))) (Prod.fst (Prod.snd (val (v17 x3 x4 x5 x6)))) (Prod.snd (Prod.snd (val (v17 x3 x4 x5 x6)))) (val (v31 x1 x2)))) x1 x2 x3 x4 x5 x6 (Prod.fst (val (v17 x3 x4 x5 x6))) (Prod.fst (Prod.snd (val (v17 x3 x4 x5 x6))))))) none) none) none) (cond (ok (L4_172_0 false x1 x2 x3 x4 x5 x6 (Prod.fst (val (v17 x3 x4 x5 x6))) (Prod.fst (Prod.snd (val (v17 x3 x4 x5 x6)))))) (some (val (L4_172_0 false x1 x2 x3 x4 x5 x6 (Prod.fst (val (v17 x3 x4 x5 x6))) (Prod.fst (Prod.snd (val (v17 x3 x4 x5 x6))))))) none)) none)
def xL4_156_0 (x0 : Bool) (x1 : Int) (x2 : Int) (x3 : Int) (x4 : Int) (x5 : Int) (x6 : Int) (x7 : Int) (x8 : Int) : Bool → Ex × CS := fun r => (.ret, { sl := [(4, .l 4 0), (5, .l 5 0), (8, .v (.sc (.bool (r)))), (12, .l 12 0), (136, .l 5 0), (140, .l 5 1)], lo := [], h := [], n0 := 0 })
theorem bL4_156_0 (k : Nat) (cX : Ex → CS → Option (Ex × CS)) (x0 : Bool) (x1 : Int) (x2 : Int) (x3 : Int) (x4 : Int) (x5 : Int) (x6 : Int) (x7 : Int) (x8 : Int) : pieceBody Try.prog (mkTn base o26 t26 4) (TM.evF Try.prog (mkTn base o26 t26) dOk (k + 40)) dOk (k + 40) (codeAt Try.prog (tn0 4) 4 156) 0 156 { sl := [(4, .l 4 0), (5, .l 5 0), (9, .v (.sc (.bool (x0)))), (10, .v (.sc (.int .i64 (x1)))), (11, .v (.sc (.int .i64 (x2)))), (12, .l 12 0), (136, .l 5 0), (140, .l 5 1)], lo := [(4, [.int .i64 (x3), .int .i64 (x4)]), (5, [.int .i64 (x5), .int .i64 (x6)]), (12, [.int .i64 (x7), .int .i64 (x8)])], h := [], n0 := 0 } cX = (cond (ok (v17 x3 x4 x5 x6)) (cond (x0) (cond (ok (v31 x1 x2)) (cond (ok (v30 (Prod.fst (val (v17 x3 x4 x5 x6))) (Prod.fst (Prod.snd (val (v17 x3 x4 x5 x6)))) (Prod.snd (Prod.snd (val (v17 x3 x4 x5 x6)))) (val (v31 x1 x2)))) (cond (ok (L4_172_0 (val (v30 (Prod.fst (val (v17 x3 x4 x5 x6))) (Prod.fst (Prod.snd (val (v17 x3 x4 x5 x6)))) (Prod.snd (Prod.snd (val (v17 x3 x4 x5 x6)))) (val (v31 x1 x2)))) x1 x2 x3 x4 x5 x6 (Prod.fst (val (v17 x3 x4 x5 x6))) (Prod.fst (Prod.snd (val (v17 x3 x4 x5 x6)))))) (cX .ret { sl := [(4, .l 4 0), (5, .l 5 0), (8, .v (.sc (.bool (val (L4_172_0 (val (v30 (Prod.fst (val (v17 x3 x4 x5 x6))) (Prod.fst (Prod.snd (val (v17 x3 x4 x5 x6)))) (Prod.snd (Prod.snd (val (v17 x3 x4 x5 x6)))) (val (v31 x1 x2)))) x1 x2 x3 x4 x5 x6 (Prod.fst (val (v17 x3 x4 x5 x6))) (Prod.fst (Prod.snd (val (v17 x3 x4 x5 x6))))))))), (12, .l 12 0), (136, .l 5 0), (140, .l 5 1)], lo := [], h := [], n0 := 0 }) none) none) none) (cond (ok (L4_172_0 false x1 x2 x3 x4 x5 x6 (Prod.fst (val (v17 x3 x4 x5 x6))) (Prod.fst (Prod.snd (val (v17 x3 x4 x5 x6)))))) (cX .ret { sl := [(4, .l 4 0), (5, .l 5 0), (8, .v (.sc (.bool (val (L4_172_0 false x1 x2 x3 x4 x5 x6 (Prod.fst (val (v17 x3 x4 x5 x6))) (Prod.fst (Prod.snd (val (v17 x3 x4 x5 x6))))))))), (12, .l 12 0), (136, .l 5 0), (140, .l 5 1)], lo := [], h := [], n0 := 0 }) none)) none) := by kernel_rfl
theorem lL4_156_0 (k : Nat) (x0 : Bool) (x1 : Int) (x2 : Int) (x3 : Int) (x4 : Int) (x5 : Int) (x6 : Int) (x7 : Int) (x8 : Int) (r : Bool) : L4_156_0 x0 x1 x2 x3 x4 x5 x6 x7 x8 = some r → pieceBody Try.prog (mkTn base o26 t26 4) (TM.evF Try.prog (mkTn base o26 t26) dOk (k + 40)) dOk (k + 40) (codeAt Try.prog (tn0 4) 4 156) 0 156 { sl := [(4, .l 4 0), (5, .l 5 0), (9, .v (.sc (.bool (x0)))), (10, .v (.sc (.int .i64 (x1)))), (11, .v (.sc (.int .i64 (x2)))), (12, .l 12 0), (136, .l 5 0), (140, .l 5 1)], lo := [(4, [.int .i64 (x3), .int .i64 (x4)]), (5, [.int .i64 (x5), .int .i64 (x6)]), (12, [.int .i64 (x7), .int .i64 (x8)])], h := [], n0 := 0 } (fun e s => some (e, s)) = some (xL4_156_0 x0 x1 x2 x3 x4 x5 x6 x7 x8 r) := by
  rw [bL4_156_0]
  unfold L4_156_0
  cases (ok (v17 x3 x4 x5 x6)) with
  | true =>
    cases x0 with
    | true =>
      cases (ok (v31 x1 x2)) with
      | true =>
        cases (ok (v30 (Prod.fst (val (v17 x3 x4 x5 x6))) (Prod.fst (Prod.snd (val (v17 x3 x4 x5 x6)))) (Prod.snd (Prod.snd (val (v17 x3 x4 x5 x6)))) (val (v31 x1 x2)))) with
        | true =>
          cases (ok (L4_172_0 (val (v30 (Prod.fst (val (v17 x3 x4 x5 x6))) (Prod.fst (Prod.snd (val (v17 x3 x4 x5 x6)))) (Prod.snd (Prod.snd (val (v17 x3 x4 x5 x6)))) (val (v31 x1 x2)))) x1 x2 x3 x4 x5 x6 (Prod.fst (val (v17 x3 x4 x5 x6))) (Prod.fst (Prod.snd (val (v17 x3 x4 x5 x6)))))) with
          | true =>
            intro h; cases h; rfl
          | false =>
            intro h; cases h
        | false =>
          intro h; cases h
      | false =>
        intro h; cases h
    | false =>
      cases (ok (L4_172_0 false x1 x2 x3 x4 x5 x6 (Prod.fst (val (v17 x3 x4 x5 x6))) (Prod.fst (Prod.snd (val (v17 x3 x4 x5 x6)))))) with
      | true =>
        intro h; cases h; rfl
      | false =>
        intro h; cases h
  | false =>
    intro h; cases h
def sL4_156_0 : TellS := fun S => match S with
  | { sl := [(4, .l 4 0), (5, .l 5 0), (9, .v (.sc (.bool (x0)))), (10, .v (.sc (.int .i64 (x1)))), (11, .v (.sc (.int .i64 (x2)))), (12, .l 12 0), (136, .l 5 0), (140, .l 5 1)], lo := [(4, [.int .i64 (x3), .int .i64 (x4)]), (5, [.int .i64 (x5), .int .i64 (x6)]), (12, [.int .i64 (x7), .int .i64 (x8)])], h := [], n0 := 0 } => some [(ok (L4_156_0 x0 x1 x2 x3 x4 x5 x6 x7 x8), .ret, { sl := [(4, .l 4 0), (5, .l 5 0), (8, .v (.sc (.bool ((val (L4_156_0 x0 x1 x2 x3 x4 x5 x6 x7 x8)))))), (12, .l 12 0), (136, .l 5 0), (140, .l 5 1)], lo := [], h := [], n0 := 0 })]
  | _ => none
theorem wL4_156_0 : NewTell Try.prog dOk base o26 t26 ((4, 156), sL4_156_0) := by
  refine ⟨(codeAt Try.prog (tn0 4) 4 156), 0, by kernel_rfl, ?_⟩
  intro S alts e S' h1 h2
  have h1 : sL4_156_0 S = some alts := h1
  unfold sL4_156_0 at h1
  split at h1
  · cases h1
    obtain ⟨hc0, rfl, rfl⟩ := pick_one h2
    exact ⟨0 + 40, (evPiece_code rfl).trans (lL4_156_0 0 _ _ _ _ _ _ _ _ _ _ (ok_val hc0))⟩
  · cases h1
/-- queuelablaw06.IntervalContains: the piece 156 -/
def L4_156_1 (x0 : Bool) (x1 : Int) (x2 : Int) (x3 : Int) (x4 : Int) (x5 : Int) (x6 : Int) (x7 : Int) (x8 : Int) : Option Bool := (cond (ok (v17 x3 x4 x5 x6)) (cond (x0) (cond (ok (v31 x1 x2)) (cond (ok (v30 (Prod.fst (val (v17 x3 x4 x5 x6))) (Prod.fst (Prod.snd (val (v17 x3 x4 x5 x6)))) (Prod.snd (Prod.snd (val (v17 x3 x4 x5 x6)))) (val (v31 x1 x2)))) (cond (ok (L4_172_1 (val (v30 (Prod.fst (val (v17 x3 x4 x5 x6))) (Prod.fst (Prod.snd (val (v17 x3 x4 x5 x6)))) (Prod.snd (Prod.snd (val (v17 x3 x4 x5 x6)))) (val (v31 x1 x2)))) x1 x2 x3 x4 x5 x6 (Prod.fst (val (v17 x3 x4 x5 x6))) (Prod.fst (Prod.snd (val (v17 x3 x4 x5 x6)))))) (some (val (L4_172_1 (val (v30 (Prod.fst (val (v17 x3 x4 x5 x6))) (Prod.fst (Prod.snd (val (v17 x3 x4 x5 x6)))) (Prod.snd (Prod.snd (val (v17 x3 x4 x5 x6)))) (val (v31 x1 x2)))) x1 x2 x3 x4 x5 x6 (Prod.fst (val (v17 x3 x4 x5 x6))) (Prod.fst (Prod.snd (val (v17 x3 x4 x5 x6))))))) none) none) none) (cond (ok (L4_172_1 false x1 x2 x3 x4 x5 x6 (Prod.fst (val (v17 x3 x4 x5 x6))) (Prod.fst (Prod.snd (val (v17 x3 x4 x5 x6)))))) (some (val (L4_172_1 false x1 x2 x3 x4 x5 x6 (Prod.fst (val (v17 x3 x4 x5 x6))) (Prod.fst (Prod.snd (val (v17 x3 x4 x5 x6))))))) none)) none)
def xL4_156_1 (x0 : Bool) (x1 : Int) (x2 : Int) (x3 : Int) (x4 : Int) (x5 : Int) (x6 : Int) (x7 : Int) (x8 : Int) : Bool → Ex × CS := fun r => (.ret, { sl := [(4, .l 4 0), (5, .l 5 0), (8, .v (.sc (.bool (r)))), (12, .l 12 0), (136, .l 5 0)], lo := [], h := [], n0 := 0 })
theorem bL4_156_1 (k : Nat) (cX : Ex → CS → Option (Ex × CS)) (x0 : Bool) (x1 : Int) (x2 : Int) (x3 : Int) (x4 : Int) (x5 : Int) (x6 : Int) (x7 : Int) (x8 : Int) : pieceBody Try.prog (mkTn base o26 t26 4) (TM.evF Try.prog (mkTn base o26 t26) dOk (k + 40)) dOk (k + 40) (codeAt Try.prog (tn0 4) 4 156) 0 156 { sl := [(4, .l 4 0), (5, .l 5 0), (9, .v (.sc (.bool (x0)))), (10, .v (.sc (.int .i64 (x1)))), (11, .v (.sc (.int .i64 (x2)))), (12, .l 12 0), (136, .l 5 0)], lo := [(4, [.int .i64 (x3), .int .i64 (x4)]), (5, [.int .i64 (x5), .int .i64 (x6)]), (12, [.int .i64 (x7), .int .i64 (x8)])], h := [], n0 := 0 } cX = (cond (ok (v17 x3 x4 x5 x6)) (cond (x0) (cond (ok (v31 x1 x2)) (cond (ok (v30 (Prod.fst (val (v17 x3 x4 x5 x6))) (Prod.fst (Prod.snd (val (v17 x3 x4 x5 x6)))) (Prod.snd (Prod.snd (val (v17 x3 x4 x5 x6)))) (val (v31 x1 x2)))) (cond (ok (L4_172_1 (val (v30 (Prod.fst (val (v17 x3 x4 x5 x6))) (Prod.fst (Prod.snd (val (v17 x3 x4 x5 x6)))) (Prod.snd (Prod.snd (val (v17 x3 x4 x5 x6)))) (val (v31 x1 x2)))) x1 x2 x3 x4 x5 x6 (Prod.fst (val (v17 x3 x4 x5 x6))) (Prod.fst (Prod.snd (val (v17 x3 x4 x5 x6)))))) (cX .ret { sl := [(4, .l 4 0), (5, .l 5 0), (8, .v (.sc (.bool (val (L4_172_1 (val (v30 (Prod.fst (val (v17 x3 x4 x5 x6))) (Prod.fst (Prod.snd (val (v17 x3 x4 x5 x6)))) (Prod.snd (Prod.snd (val (v17 x3 x4 x5 x6)))) (val (v31 x1 x2)))) x1 x2 x3 x4 x5 x6 (Prod.fst (val (v17 x3 x4 x5 x6))) (Prod.fst (Prod.snd (val (v17 x3 x4 x5 x6))))))))), (12, .l 12 0), (136, .l 5 0)], lo := [], h := [], n0 := 0 }) none) none) none) (cond (ok (L4_172_1 false x1 x2 x3 x4 x5 x6 (Prod.fst (val (v17 x3 x4 x5 x6))) (Prod.fst (Prod.snd (val (v17 x3 x4 x5 x6)))))) (cX .ret { sl := [(4, .l 4 0), (5, .l 5 0), (8, .v (.sc (.bool (val (L4_172_1 false x1 x2 x3 x4 x5 x6 (Prod.fst (val (v17 x3 x4 x5 x6))) (Prod.fst (Prod.snd (val (v17 x3 x4 x5 x6))))))))), (12, .l 12 0), (136, .l 5 0)], lo := [], h := [], n0 := 0 }) none)) none) := by kernel_rfl
theorem lL4_156_1 (k : Nat) (x0 : Bool) (x1 : Int) (x2 : Int) (x3 : Int) (x4 : Int) (x5 : Int) (x6 : Int) (x7 : Int) (x8 : Int) (r : Bool) : L4_156_1 x0 x1 x2 x3 x4 x5 x6 x7 x8 = some r → pieceBody Try.prog (mkTn base o26 t26 4) (TM.evF Try.prog (mkTn base o26 t26) dOk (k + 40)) dOk (k + 40) (codeAt Try.prog (tn0 4) 4 156) 0 156 { sl := [(4, .l 4 0), (5, .l 5 0), (9, .v (.sc (.bool (x0)))), (10, .v (.sc (.int .i64 (x1)))), (11, .v (.sc (.int .i64 (x2)))), (12, .l 12 0), (136, .l 5 0)], lo := [(4, [.int .i64 (x3), .int .i64 (x4)]), (5, [.int .i64 (x5), .int .i64 (x6)]), (12, [.int .i64 (x7), .int .i64 (x8)])], h := [], n0 := 0 } (fun e s => some (e, s)) = some (xL4_156_1 x0 x1 x2 x3 x4 x5 x6 x7 x8 r) := by
  rw [bL4_156_1]
  unfold L4_156_1
  cases (ok (v17 x3 x4 x5 x6)) with
  | true =>
    cases x0 with
    | true =>
      cases (ok (v31 x1 x2)) with
      | true =>
        cases (ok (v30 (Prod.fst (val (v17 x3 x4 x5 x6))) (Prod.fst (Prod.snd (val (v17 x3 x4 x5 x6)))) (Prod.snd (Prod.snd (val (v17 x3 x4 x5 x6)))) (val (v31 x1 x2)))) with
        | true =>
          cases (ok (L4_172_1 (val (v30 (Prod.fst (val (v17 x3 x4 x5 x6))) (Prod.fst (Prod.snd (val (v17 x3 x4 x5 x6)))) (Prod.snd (Prod.snd (val (v17 x3 x4 x5 x6)))) (val (v31 x1 x2)))) x1 x2 x3 x4 x5 x6 (Prod.fst (val (v17 x3 x4 x5 x6))) (Prod.fst (Prod.snd (val (v17 x3 x4 x5 x6)))))) with
          | true =>
            intro h; cases h; rfl
          | false =>
            intro h; cases h
        | false =>
          intro h; cases h
      | false =>
        intro h; cases h
    | false =>
      cases (ok (L4_172_1 false x1 x2 x3 x4 x5 x6 (Prod.fst (val (v17 x3 x4 x5 x6))) (Prod.fst (Prod.snd (val (v17 x3 x4 x5 x6)))))) with
      | true =>
        intro h; cases h; rfl
      | false =>
        intro h; cases h
  | false =>
    intro h; cases h
def sL4_156_1 : TellS := fun S => match S with
  | { sl := [(4, .l 4 0), (5, .l 5 0), (9, .v (.sc (.bool (x0)))), (10, .v (.sc (.int .i64 (x1)))), (11, .v (.sc (.int .i64 (x2)))), (12, .l 12 0), (136, .l 5 0)], lo := [(4, [.int .i64 (x3), .int .i64 (x4)]), (5, [.int .i64 (x5), .int .i64 (x6)]), (12, [.int .i64 (x7), .int .i64 (x8)])], h := [], n0 := 0 } => some [(ok (L4_156_1 x0 x1 x2 x3 x4 x5 x6 x7 x8), .ret, { sl := [(4, .l 4 0), (5, .l 5 0), (8, .v (.sc (.bool ((val (L4_156_1 x0 x1 x2 x3 x4 x5 x6 x7 x8)))))), (12, .l 12 0), (136, .l 5 0)], lo := [], h := [], n0 := 0 })]
  | _ => none
theorem wL4_156_1 : NewTell Try.prog dOk base o26 t26 ((4, 156), sL4_156_1) := by
  refine ⟨(codeAt Try.prog (tn0 4) 4 156), 0, by kernel_rfl, ?_⟩
  intro S alts e S' h1 h2
  have h1 : sL4_156_1 S = some alts := h1
  unfold sL4_156_1 at h1
  split at h1
  · cases h1
    obtain ⟨hc0, rfl, rfl⟩ := pick_one h2
    exact ⟨0 + 40, (evPiece_code rfl).trans (lL4_156_1 0 _ _ _ _ _ _ _ _ _ _ (ok_val hc0))⟩
  · cases h1
def o27 : OrcT := (8, sv8) :: o26
def t27 : TellT := ((3, 68), sL3_68_0) :: ((5, 188), sL5_188_0) :: ((6, 164), sL6_164_0) :: ((4, 156), sL4_156_0) :: ((4, 156), sL4_156_1) :: t26
abbrev tn27 : FuncId → TAn := mkTn base o27 t27
theorem ok27 : TnOk Try.prog tn27 (mkA base) dOk := by
  have h0 : TnOk Try.prog (mkTn base o26 t26) (mkA base) dOk := ok26
  have h1 := tn_orc h0 h0 (p := (8, sv8)) wv8
  have h2 := tn_tell h0 h1 (p := ((4, 156), sL4_156_1)) wL4_156_1
  have h3 := tn_tell h0 h2 (p := ((4, 156), sL4_156_0)) wL4_156_0
  have h4 := tn_tell h0 h3 (p := ((6, 164), sL6_164_0)) wL6_164_0
  have h5 := tn_tell h0 h4 (p := ((5, 188), sL5_188_0)) wL5_188_0
  have h6 := tn_tell h0 h5 (p := ((3, 68), sL3_68_0)) wL3_68_0
  exact h6
end Go.Proofs.Ytojbaamhnfinpaa
set_option maxRecDepth 1000000
set_option linter.unusedVariables false
set_option maxHeartbeats 4000000
namespace Go.Proofs.Ytojbaamhnfinpaa
open Go Go.AM Go.TM Go.Proofs
/-- queuelablaw06.IntervalMatchesReference: the piece 44 -/
def L3_44_0 (x0 : Bool) (x1 : Int) (x2 : Int) (x3 : Int) (x4 : Int) (x5 : Int) (x6 : Int) (x7 : Int) (x8 : Int) : Option Bool := (cond (ok (v13 x1 x2 x3 x4)) (cond (ok (v14 x1 x2 x3 x4)) (cond (x0) (cond (Prod.fst (val (v13 x1 x2 x3 x4)) == Prod.fst (val (v14 x1 x2 x3 x4)) && (Prod.fst (Prod.snd (val (v13 x1 x2 x3 x4))) == Prod.fst (Prod.snd (val (v14 x1 x2 x3 x4))) && true)) (cond (ok (L3_68_0 (Prod.snd (Prod.snd (val (v13 x1 x2 x3 x4))) == Prod.snd (Prod.snd (val (v14 x1 x2 x3 x4)))) x1 x2 x3 x4 (Prod.fst (val (v13 x1 x2 x3 x4))) (Prod.fst (Prod.snd (val (v13 x1 x2 x3 x4)))) (Prod.fst (val (v14 x1 x2 x3 x4))) (Prod.fst (Prod.snd (val (v14 x1 x2 x3 x4)))))) (some (val (L3_68_0 (Prod.snd (Prod.snd (val (v13 x1 x2 x3 x4))) == Prod.snd (Prod.snd (val (v14 x1 x2 x3 x4)))) x1 x2 x3 x4 (Prod.fst (val (v13 x1 x2 x3 x4))) (Prod.fst (Prod.snd (val (v13 x1 x2 x3 x4)))) (Prod.fst (val (v14 x1 x2 x3 x4))) (Prod.fst (Prod.snd (val (v14 x1 x2 x3 x4))))))) none) (cond (ok (L3_68_0 false x1 x2 x3 x4 (Prod.fst (val (v13 x1 x2 x3 x4))) (Prod.fst (Prod.snd (val (v13 x1 x2 x3 x4)))) (Prod.fst (val (v14 x1 x2 x3 x4))) (Prod.fst (Prod.snd (val (v14 x1 x2 x3 x4)))))) (some (val (L3_68_0 false x1 x2 x3 x4 (Prod.fst (val (v13 x1 x2 x3 x4))) (Prod.fst (Prod.snd (val (v13 x1 x2 x3 x4)))) (Prod.fst (val (v14 x1 x2 x3 x4))) (Prod.fst (Prod.snd (val (v14 x1 x2 x3 x4))))))) none)) (cond (ok (L3_68_0 false x1 x2 x3 x4 (Prod.fst (val (v13 x1 x2 x3 x4))) (Prod.fst (Prod.snd (val (v13 x1 x2 x3 x4)))) (Prod.fst (val (v14 x1 x2 x3 x4))) (Prod.fst (Prod.snd (val (v14 x1 x2 x3 x4)))))) (some (val (L3_68_0 false x1 x2 x3 x4 (Prod.fst (val (v13 x1 x2 x3 x4))) (Prod.fst (Prod.snd (val (v13 x1 x2 x3 x4)))) (Prod.fst (val (v14 x1 x2 x3 x4))) (Prod.fst (Prod.snd (val (v14 x1 x2 x3 x4))))))) none)) none) none)
def xL3_44_0 (x0 : Bool) (x1 : Int) (x2 : Int) (x3 : Int) (x4 : Int) (x5 : Int) (x6 : Int) (x7 : Int) (x8 : Int) : Bool → Ex × CS := fun r => (.ret, { sl := [(2, .l 2 0), (3, .l 3 0), (4, .v (.sc (.bool (r)))), (6, .l 6 0), (8, .l 8 0)], lo := [], h := [], n0 := 0 })
theorem bL3_44_0 (k : Nat) (cX : Ex → CS → Option (Ex × CS)) (x0 : Bool) (x1 : Int) (x2 : Int) (x3 : Int) (x4 : Int) (x5 : Int) (x6 : Int) (x7 : Int) (x8 : Int) : pieceBody Try.prog (mkTn base o27 t27 3) (TM.evF Try.prog (mkTn base o27 t27) dOk (k + 40)) dOk (k + 40) (codeAt Try.prog (tn0 3) 3 44) 0 44 { sl := [(2, .l 2 0), (3, .l 3 0), (5, .v (.sc (.bool (x0)))), (6, .l 6 0), (8, .l 8 0)], lo := [(2, [.int .i64 (x1), .int .i64 (x2)]), (3, [.int .i64 (x3), .int .i64 (x4)]), (6, [.int .i64 (x5), .int .i64 (x6)]), (8, [.int .i64 (x7), .int .i64 (x8)])], h := [], n0 := 0 } cX = (cond (ok (v13 x1 x2 x3 x4)) (cond (ok (v14 x1 x2 x3 x4)) (cond (x0) (cond (Prod.fst (val (v13 x1 x2 x3 x4)) == Prod.fst (val (v14 x1 x2 x3 x4)) && (Prod.fst (Prod.snd (val (v13 x1 x2 x3 x4))) == Prod.fst (Prod.snd (val (v14 x1 x2 x3 x4))) && true)) (cond (ok (L3_68_0 (Prod.snd (Prod.snd (val (v13 x1 x2 x3 x4))) == Prod.snd (Prod.snd (val (v14 x1 x2 x3 x4)))) x1 x2 x3 x4 (Prod.fst (val (v13 x1 x2 x3 x4))) (Prod.fst (Prod.snd (val (v13 x1 x2 x3 x4)))) (Prod.fst (val (v14 x1 x2 x3 x4))) (Prod.fst (Prod.snd (val (v14 x1 x2 x3 x4)))))) (cX .ret { sl := [(2, .l 2 0), (3, .l 3 0), (4, .v (.sc (.bool (val (L3_68_0 (Prod.snd (Prod.snd (val (v13 x1 x2 x3 x4))) == Prod.snd (Prod.snd (val (v14 x1 x2 x3 x4)))) x1 x2 x3 x4 (Prod.fst (val (v13 x1 x2 x3 x4))) (Prod.fst (Prod.snd (val (v13 x1 x2 x3 x4)))) (Prod.fst (val (v14 x1 x2 x3 x4))) (Prod.fst (Prod.snd (val (v14 x1 x2 x3 x4))))))))), (6, .l 6 0), (8, .l 8 0)], lo := [], h := [], n0 := 0 }) none) (cond (ok (L3_68_0 false x1 x2 x3 x4 (Prod.fst (val (v13 x1 x2 x3 x4))) (Prod.fst (Prod.snd (val (v13 x1 x2 x3 x4)))) (Prod.fst (val (v14 x1 x2 x3 x4))) (Prod.fst (Prod.snd (val (v14 x1 x2 x3 x4)))))) (cX .ret { sl := [(2, .l 2 0), (3, .l 3 0), (4, .v (.sc (.bool (val (L3_68_0 false x1 x2 x3 x4 (Prod.fst (val (v13 x1 x2 x3 x4))) (Prod.fst (Prod.snd (val (v13 x1 x2 x3 x4)))) (Prod.fst (val (v14 x1 x2 x3 x4))) (Prod.fst (Prod.snd (val (v14 x1 x2 x3 x4))))))))), (6, .l 6 0), (8, .l 8 0)], lo := [], h := [], n0 := 0 }) none)) (cond (ok (L3_68_0 false x1 x2 x3 x4 (Prod.fst (val (v13 x1 x2 x3 x4))) (Prod.fst (Prod.snd (val (v13 x1 x2 x3 x4)))) (Prod.fst (val (v14 x1 x2 x3 x4))) (Prod.fst (Prod.snd (val (v14 x1 x2 x3 x4)))))) (cX .ret { sl := [(2, .l 2 0), (3, .l 3 0), (4, .v (.sc (.bool (val (L3_68_0 false x1 x2 x3 x4 (Prod.fst (val (v13 x1 x2 x3 x4))) (Prod.fst (Prod.snd (val (v13 x1 x2 x3 x4)))) (Prod.fst (val (v14 x1 x2 x3 x4))) (Prod.fst (Prod.snd (val (v14 x1 x2 x3 x4))))))))), (6, .l 6 0), (8, .l 8 0)], lo := [], h := [], n0 := 0 }) none)) none) none) := by kernel_rfl
theorem lL3_44_0 (k : Nat) (x0 : Bool) (x1 : Int) (x2 : Int) (x3 : Int) (x4 : Int) (x5 : Int) (x6 : Int) (x7 : Int) (x8 : Int) (r : Bool) : L3_44_0 x0 x1 x2 x3 x4 x5 x6 x7 x8 = some r → pieceBody Try.prog (mkTn base o27 t27 3) (TM.evF Try.prog (mkTn base o27 t27) dOk (k + 40)) dOk (k + 40) (codeAt Try.prog (tn0 3) 3 44) 0 44 { sl := [(2, .l 2 0), (3, .l 3 0), (5, .v (.sc (.bool (x0)))), (6, .l 6 0), (8, .l 8 0)], lo := [(2, [.int .i64 (x1), .int .i64 (x2)]), (3, [.int .i64 (x3), .int .i64 (x4)]), (6, [.int .i64 (x5), .int .i64 (x6)]), (8, [.int .i64 (x7), .int .i64 (x8)])], h := [], n0 := 0 } (fun e s => some (e, s)) = some (xL3_44_0 x0 x1 x2 x3 x4 x5 x6 x7 x8 r) := by
  rw [bL3_44_0]
  unfold L3_44_0
  cases (ok (v13 x1 x2 x3 x4)) with
  | true =>
    cases (ok (v14 x1 x2 x3 x4)) with
    | true =>
      cases x0 with
      | true =>
        cases (Prod.fst (val (v13 x1 x2 x3 x4)) == Prod.fst (val (v14 x1 x2 x3 x4)) && (Prod.fst (Prod.snd (val (v13 x1 x2 x3 x4))) == Prod.fst (Prod.snd (val (v14 x1 x2 x3 x4))) && true)) with
        | true =>
          cases (ok (L3_68_0 (Prod.snd (Prod.snd (val (v13 x1 x2 x3 x4))) == Prod.snd (Prod.snd (val (v14 x1 x2 x3 x4)))) x1 x2 x3 x4 (Prod.fst (val (v13 x1 x2 x3 x4))) (Prod.fst (Prod.snd (val (v13 x1 x2 x3 x4)))) (Prod.fst (val (v14 x1 x2 x3 x4))) (Prod.fst (Prod.snd (val (v14 x1 x2 x3 x4)))))) with
          | true =>
            intro h; cases h; rfl
          | false =>
            intro h; cases h
        | false =>
          cases (ok (L3_68_0 false x1 x2 x3 x4 (Prod.fst (val (v13 x1 x2 x3 x4))) (Prod.fst (Prod.snd (val (v13 x1 x2 x3 x4)))) (Prod.fst (val (v14 x1 x2 x3 x4))) (Prod.fst (Prod.snd (val (v14 x1 x2 x3 x4)))))) with
          | true =>
            intro h; cases h; rfl
          | false =>
            intro h; cases h
      | false =>
        cases (ok (L3_68_0 false x1 x2 x3 x4 (Prod.fst (val (v13 x1 x2 x3 x4))) (Prod.fst (Prod.snd (val (v13 x1 x2 x3 x4)))) (Prod.fst (val (v14 x1 x2 x3 x4))) (Prod.fst (Prod.snd (val (v14 x1 x2 x3 x4)))))) with
        | true =>
          intro h; cases h; rfl
        | false =>
          intro h; cases h
    | false =>
      intro h; cases h
  | false =>
    intro h; cases h
def sL3_44_0 : TellS := fun S => match S with
  | { sl := [(2, .l 2 0), (3, .l 3 0), (5, .v (.sc (.bool (x0)))), (6, .l 6 0), (8, .l 8 0)], lo := [(2, [.int .i64 (x1), .int .i64 (x2)]), (3, [.int .i64 (x3), .int .i64 (x4)]), (6, [.int .i64 (x5), .int .i64 (x6)]), (8, [.int .i64 (x7), .int .i64 (x8)])], h := [], n0 := 0 } => some [(ok (L3_44_0 x0 x1 x2 x3 x4 x5 x6 x7 x8), .ret, { sl := [(2, .l 2 0), (3, .l 3 0), (4, .v (.sc (.bool ((val (L3_44_0 x0 x1 x2 x3 x4 x5 x6 x7 x8)))))), (6, .l 6 0), (8, .l 8 0)], lo := [], h := [], n0 := 0 })]
  | _ => none
theorem wL3_44_0 : NewTell Try.prog dOk base o27 t27 ((3, 44), sL3_44_0) := by
  refine ⟨(codeAt Try.prog (tn0 3) 3 44), 0, by kernel_rfl, ?_⟩
  intro S alts e S' h1 h2
  have h1 : sL3_44_0 S = some alts := h1
  unfold sL3_44_0 at h1
  split at h1
  · cases h1
    obtain ⟨hc0, rfl, rfl⟩ := pick_one h2
    exact ⟨0 + 40, (evPiece_code rfl).trans (lL3_44_0 0 _ _ _ _ _ _ _ _ _ _ (ok_val hc0))⟩
  · cases h1
/-- queuelablaw06.IntervalLeast: the piece 164 -/
def L5_164_0 (x0 : Bool) (x1 : Bool) (x2 : Int) (x3 : Int) (x4 : Int) (x5 : Int) (x6 : Int) (x7 : Int) (x8 : Int) (x9 : Int) (x10 : Int) : Option (Bool ⊕ Bool) := (cond (x3 != (0 : Int)) (cond (x0) (some (.inl (x3 != (0 : Int)))) (some (.inl (false)))) (cond (decide (x2 ≥ (3 : Int))) (cond (x1) (cond (x0) (some (.inl (x3 != (0 : Int)))) (some (.inl (false)))) (cond (ok (L5_188_0 x0 x1 x2 false false x4 x5 x6 x7 x8 x9 x10)) (some (.inr (val (L5_188_0 x0 x1 x2 false false x4 x5 x6 x7 x8 x9 x10)))) none)) (cond (ok (L5_188_0 x0 x1 x2 false false x4 x5 x6 x7 x8 x9 x10)) (some (.inr (val (L5_188_0 x0 x1 x2 false false x4 x5 x6 x7 x8 x9 x10)))) none)))
def xL5_164_0 (x0 : Bool) (x1 : Bool) (x2 : Int) (x3 : Int) (x4 : Int) (x5 : Int) (x6 : Int) (x7 : Int) (x8 : Int) (x9 : Int) (x10 : Int) : (Bool ⊕ Bool) → Ex × CS := fun r => match r with | .inl a0 => ((.exit 1), { sl := [(2, .l 2 0), (3, .l 3 0), (5, .v (.sc (.bool (a0)))), (6, .v (.sc (.bool (x1)))), (8, .l 8 0), (35, .v (.sc (.int .i64 (x4))))], lo := [(2, [.int .i64 (x5), .int .i64 (x6)]), (3, [.int .i64 (x7), .int .i64 (x8)])], h := [], n0 := 0 }) | .inr b0 => (.normal, { sl := [(2, .l 2 0), (3, .l 3 0), (5, .v (.sc (.bool (b0)))), (6, .v (.sc (.bool (x1)))), (8, .l 8 0), (35, .v (.sc (.int .i64 (x4))))], lo := [(2, [.int .i64 (x5), .int .i64 (x6)]), (3, [.int .i64 (x7), .int .i64 (x8)])], h := [], n0 := 0 })
theorem bL5_164_0 (k : Nat) (cX : Ex → CS → Option (Ex × CS)) (x0 : Bool) (x1 : Bool) (x2 : Int) (x3 : Int) (x4 : Int) (x5 : Int) (x6 : Int) (x7 : Int) (x8 : Int) (x9 : Int) (x10 : Int) : pieceBody Try.prog (mkTn base o27 t27 5) (TM.evF Try.prog (mkTn base o27 t27) dOk (k + 40)) dOk (k + 40) (codeAt Try.prog (tn0 5) 5 164) 1 164 { sl := [(2, .l 2 0), (3, .l 3 0), (5, .v (.sc (.bool (x0)))), (6, .v (.sc (.bool (x1)))), (7, .v (.sc (.int .i64 (x2)))), (8, .l 8 0), (9, .v (.sc (.int .i64 (x3)))), (35, .v (.sc (.int .i64 (x4))))], lo := [(2, [.int .i64 (x5), .int .i64 (x6)]), (3, [.int .i64 (x7), .int .i64 (x8)]), (8, [.int .i64 (x9), .int .i64 (x10)])], h := [], n0 := 0 } cX = (cond (x3 != (0 : Int)) (cond (x0) (cX (.exit 1) { sl := [(2, .l 2 0), (3, .l 3 0), (5, .v (.sc (.bool (x3 != (0 : Int))))), (6, .v (.sc (.bool (x1)))), (8, .l 8 0), (35, .v (.sc (.int .i64 (x4))))], lo := [(2, [.int .i64 (x5), .int .i64 (x6)]), (3, [.int .i64 (x7), .int .i64 (x8)])], h := [], n0 := 0 }) (cX (.exit 1) { sl := [(2, .l 2 0), (3, .l 3 0), (5, .v (.sc (.bool (false)))), (6, .v (.sc (.bool (x1)))), (8, .l 8 0), (35, .v (.sc (.int .i64 (x4))))], lo := [(2, [.int .i64 (x5), .int .i64 (x6)]), (3, [.int .i64 (x7), .int .i64 (x8)])], h := [], n0 := 0 })) (cond (decide (x2 ≥ (3 : Int))) (cond (x1) (cond (x0) (cX (.exit 1) { sl := [(2, .l 2 0), (3, .l 3 0), (5, .v (.sc (.bool (x3 != (0 : Int))))), (6, .v (.sc (.bool (x1)))), (8, .l 8 0), (35, .v (.sc (.int .i64 (x4))))], lo := [(2, [.int .i64 (x5), .int .i64 (x6)]), (3, [.int .i64 (x7), .int .i64 (x8)])], h := [], n0 := 0 }) (cX (.exit 1) { sl := [(2, .l 2 0), (3, .l 3 0), (5, .v (.sc (.bool (false)))), (6, .v (.sc (.bool (x1)))), (8, .l 8 0), (35, .v (.sc (.int .i64 (x4))))], lo := [(2, [.int .i64 (x5), .int .i64 (x6)]), (3, [.int .i64 (x7), .int .i64 (x8)])], h := [], n0 := 0 })) (cond (ok (L5_188_0 x0 x1 x2 false false x4 x5 x6 x7 x8 x9 x10)) (cX .normal { sl := [(2, .l 2 0), (3, .l 3 0), (5, .v (.sc (.bool (val (L5_188_0 x0 x1 x2 false false x4 x5 x6 x7 x8 x9 x10))))), (6, .v (.sc (.bool (x1)))), (8, .l 8 0), (35, .v (.sc (.int .i64 (x4))))], lo := [(2, [.int .i64 (x5), .int .i64 (x6)]), (3, [.int .i64 (x7), .int .i64 (x8)])], h := [], n0 := 0 }) none)) (cond (ok (L5_188_0 x0 x1 x2 false false x4 x5 x6 x7 x8 x9 x10)) (cX .normal { sl := [(2, .l 2 0), (3, .l 3 0), (5, .v (.sc (.bool (val (L5_188_0 x0 x1 x2 false false x4 x5 x6 x7 x8 x9 x10))))), (6, .v (.sc (.bool (x1)))), (8, .l 8 0), (35, .v (.sc (.int .i64 (x4))))], lo := [(2, [.int .i64 (x5), .int .i64 (x6)]), (3, [.int .i64 (x7), .int .i64 (x8)])], h := [], n0 := 0 }) none))) := by kernel_rfl
theorem lL5_164_0 (k : Nat) (x0 : Bool) (x1 : Bool) (x2 : Int) (x3 : Int) (x4 : Int) (x5 : Int) (x6 : Int) (x7 : Int) (x8 : Int) (x9 : Int) (x10 : Int) (r : (Bool ⊕ Bool)) : L5_164_0 x0 x1 x2 x3 x4 x5 x6 x7 x8 x9 x10 = some r → pieceBody Try.prog (mkTn base o27 t27 5) (TM.evF Try.prog (mkTn base o27 t27) dOk (k + 40)) dOk (k + 40) (codeAt Try.prog (tn0 5) 5 164) 1 164 { sl := [(2, .l 2 0), (3, .l 3 0), (5, .v (.sc (.bool (x0)))), (6, .v (.sc (.bool (x1)))), (7, .v (.sc (.int .i64 (x2)))), (8, .l 8 0), (9, .v (.sc (.int .i64 (x3)))), (35, .v (.sc (.int .i64 (x4))))], lo := [(2, [.int .i64 (x5), .int .i64 (x6)]), (3, [.int .i64 (x7), .int .i64 (x8)]), (8, [.int .i64 (x9), .int .i64 (x10)])], h := [], n0 := 0 } (fun e s => some (e, s)) = some (xL5_164_0 x0 x1 x2 x3 x4 x5 x6 x7 x8 x9 x10 r) := by
  rw [bL5_164_0]
  unfold L5_164_0
  cases (x3 != (0 : Int)) with
  | true =>
    cases x0 with
    | true =>
      intro h; cases h; rfl
    | false =>
      intro h; cases h; rfl
  | false =>
    cases (decide (x2 ≥ (3 : Int))) with
    | true =>
      cases x1 with
      | true =>
        cases x0 with
        | true =>
          intro h; cases h; rfl
        | false =>
          intro h; cases h; rfl
      | false =>
        cases (ok (L5_188_0 x0 false x2 false false x4 x5 x6 x7 x8 x9 x10)) with
        | true =>
          intro h; cases h; rfl
        | false =>
          intro h; cases h
    | false =>
      cases (ok (L5_188_0 x0 x1 x2 false false x4 x5 x6 x7 x8 x9 x10)) with
      | true =>
        intro h; cases h; rfl
      | false =>
        intro h; cases h
def sL5_164_0 : TellS := fun S => match S with
  | { sl := [(2, .l 2 0), (3, .l 3 0), (5, .v (.sc (.bool (x0)))), (6, .v (.sc (.bool (x1)))), (7, .v (.sc (.int .i64 (x2)))), (8, .l 8 0), (9, .v (.sc (.int .i64 (x3)))), (35, .v (.sc (.int .i64 (x4))))], lo := [(2, [.int .i64 (x5), .int .i64 (x6)]), (3, [.int .i64 (x7), .int .i64 (x8)]), (8, [.int .i64 (x9), .int .i64 (x10)])], h := [], n0 := 0 } => some [(isL (L5_164_0 x0 x1 x2 x3 x4 x5 x6 x7 x8 x9 x10), (.exit 1), { sl := [(2, .l 2 0), (3, .l 3 0), (5, .v (.sc (.bool ((getL (L5_164_0 x0 x1 x2 x3 x4 x5 x6 x7 x8 x9 x10)))))), (6, .v (.sc (.bool (x1)))), (8, .l 8 0), (35, .v (.sc (.int .i64 (x4))))], lo := [(2, [.int .i64 (x5), .int .i64 (x6)]), (3, [.int .i64 (x7), .int .i64 (x8)])], h := [], n0 := 0 }), (ok (getR (L5_164_0 x0 x1 x2 x3 x4 x5 x6 x7 x8 x9 x10)), .normal, { sl := [(2, .l 2 0), (3, .l 3 0), (5, .v (.sc (.bool ((val (getR (L5_164_0 x0 x1 x2 x3 x4 x5 x6 x7 x8 x9 x10))))))), (6, .v (.sc (.bool (x1)))), (8, .l 8 0), (35, .v (.sc (.int .i64 (x4))))], lo := [(2, [.int .i64 (x5), .int .i64 (x6)]), (3, [.int .i64 (x7), .int .i64 (x8)])], h := [], n0 := 0 })]
  | _ => none
theorem wL5_164_0 : NewTell Try.prog dOk base o27 t27 ((5, 164), sL5_164_0) := by
  refine ⟨(codeAt Try.prog (tn0 5) 5 164), 1, by kernel_rfl, ?_⟩
  intro S alts e S' h1 h2
  have h1 : sL5_164_0 S = some alts := h1
  unfold sL5_164_0 at h1
  split at h1
  · cases h1
    rcases pick_cons h2 with ⟨hc0, rfl, rfl⟩ | h2
    · exact ⟨0 + 40, (evPiece_code rfl).trans (lL5_164_0 0 _ _ _ _ _ _ _ _ _ _ _ _ (isL_val hc0))⟩
    obtain ⟨hc1, rfl, rfl⟩ := pick_one h2
    exact ⟨0 + 40, (evPiece_code rfl).trans (lL5_164_0 0 _ _ _ _ _ _ _ _ _ _ _ _ (getR_val (ok_val hc1)))⟩
  · cases h1
/-- queuelablaw06.IntervalNarrower: the piece 140 -/
def L6_140_0 (x0 : Bool) (x1 : Int) (x2 : Int) (x3 : Int) (x4 : Int) (x5 : Int) (x6 : Int) (x7 : Int) (x8 : Int) (x9 : Int) (x10 : Int) (x11 : Int) (x12 : Int) : Option Bool := (cond (ok (v19 x5 x6 x7 x8)) (cond (ok (v19 x1 x2 x3 x4)) (cond (x0) (cond (ok (v33 (Prod.fst (val (v19 x5 x6 x7 x8))) (Prod.fst (Prod.snd (val (v19 x5 x6 x7 x8)))) (Prod.snd (Prod.snd (val (v19 x5 x6 x7 x8)))) (Prod.fst (val (v19 x1 x2 x3 x4))) (Prod.fst (Prod.snd (val (v19 x1 x2 x3 x4)))) (Prod.snd (Prod.snd (val (v19 x1 x2 x3 x4)))))) (cond (ok (L6_164_0 (val (v33 (Prod.fst (val (v19 x5 x6 x7 x8))) (Prod.fst (Prod.snd (val (v19 x5 x6 x7 x8)))) (Prod.snd (Prod.snd (val (v19 x5 x6 x7 x8)))) (Prod.fst (val (v19 x1 x2 x3 x4))) (Prod.fst (Prod.snd (val (v19 x1 x2 x3 x4)))) (Prod.snd (Prod.snd (val (v19 x1 x2 x3 x4)))))) x1 x2 x3 x4 x5 x6 x7 x8 (Prod.fst (val (v19 x5 x6 x7 x8))) (Prod.fst (Prod.snd (val (v19 x5 x6 x7 x8)))) (Prod.fst (val (v19 x1 x2 x3 x4))) (Prod.fst (Prod.snd (val (v19 x1 x2 x3 x4)))))) (some (val (L6_164_0 (val (v33 (Prod.fst (val (v19 x5 x6 x7 x8))) (Prod.fst (Prod.snd (val (v19 x5 x6 x7 x8)))) (Prod.snd (Prod.snd (val (v19 x5 x6 x7 x8)))) (Prod.fst (val (v19 x1 x2 x3 x4))) (Prod.fst (Prod.snd (val (v19 x1 x2 x3 x4)))) (Prod.snd (Prod.snd (val (v19 x1 x2 x3 x4)))))) x1 x2 x3 x4 x5 x6 x7 x8 (Prod.fst (val (v19 x5 x6 x7 x8))) (Prod.fst (Prod.snd (val (v19 x5 x6 x7 x8)))) (Prod.fst (val (v19 x1 x2 x3 x4))) (Prod.fst (Prod.snd (val (v19 x1 x2 x3 x4))))))) none) none) (cond (ok (L6_164_0 false x1 x2 x3 x4 x5 x6 x7 x8 (Prod.fst (val (v19 x5 x6 x7 x8))) (Prod.fst (Prod.snd (val (v19 x5 x6 x7 x8)))) (Prod.fst (val (v19 x1 x2 x3 x4))) (Prod.fst (Prod.snd (val (v19 x1 x2 x3 x4)))))) (some (val (L6_164_0 false x1 x2 x3 x4 x5 x6 x7 x8 (Prod.fst (val (v19 x5 x6 x7 x8))) (Prod.fst (Prod.snd (val (v19 x5 x6 x7 x8)))) (Prod.fst (val (v19 x1 x2 x3 x4))) (Prod.fst (Prod.snd (val (v19 x1 x2 x3 x4))))))) none)) none) none)
def xL6_140_0 (x0 : Bool) (x1 : Int) (x2 : Int) (x3 : Int) (x4 : Int) (x5 : Int) (x6 : Int) (x7 : Int) (x8 : Int) (x9 : Int) (x10 : Int) (x11 : Int) (x12 : Int) : Bool → Ex × CS := fun r => (.ret, { sl := [(6, .l 6 0), (7, .l 7 0), (12, .v (.sc (.bool (r)))), (14, .l 14 0), (15, .l 15 0), (16, .l 16 0), (18, .l 18 0)], lo := [], h := [], n0 := 0 })
theorem bL6_140_0 (k : Nat) (cX : Ex → CS → Option (Ex × CS)) (x0 : Bool) (x1 : Int) (x2 : Int) (x3 : Int) (x4 : Int) (x5 : Int) (x6 : Int) (x7 : Int) (x8 : Int) (x9 : Int) (x10 : Int) (x11 : Int) (x12 : Int) : pieceBody Try.prog (mkTn base o27 t27 6) (TM.evF Try.prog (mkTn base o27 t27) dOk (k + 40)) dOk (k + 40) (codeAt Try.prog (tn0 6) 6 140) 0 140 { sl := [(6, .l 6 0), (7, .l 7 0), (13, .v (.sc (.bool (x0)))), (14, .l 14 0), (15, .l 15 0), (16, .l 16 0), (18, .l 18 0)], lo := [(6, [.int .i64 (x1), .int .i64 (x2)]), (7, [.int .i64 (x3), .int .i64 (x4)]), (14, [.int .i64 (x5), .int .i64 (x6)]), (15, [.int .i64 (x7), .int .i64 (x8)]), (16, [.int .i64 (x9), .int .i64 (x10)]), (18, [.int .i64 (x11), .int .i64 (x12)])], h := [], n0 := 0 } cX = (cond (ok (v19 x5 x6 x7 x8)) (cond (ok (v19 x1 x2 x3 x4)) (cond (x0) (cond (ok (v33 (Prod.fst (val (v19 x5 x6 x7 x8))) (Prod.fst (Prod.snd (val (v19 x5 x6 x7 x8)))) (Prod.snd (Prod.snd (val (v19 x5 x6 x7 x8)))) (Prod.fst (val (v19 x1 x2 x3 x4))) (Prod.fst (Prod.snd (val (v19 x1 x2 x3 x4)))) (Prod.snd (Prod.snd (val (v19 x1 x2 x3 x4)))))) (cond (ok (L6_164_0 (val (v33 (Prod.fst (val (v19 x5 x6 x7 x8))) (Prod.fst (Prod.snd (val (v19 x5 x6 x7 x8)))) (Prod.snd (Prod.snd (val (v19 x5 x6 x7 x8)))) (Prod.fst (val (v19 x1 x2 x3 x4))) (Prod.fst (Prod.snd (val (v19 x1 x2 x3 x4)))) (Prod.snd (Prod.snd (val (v19 x1 x2 x3 x4)))))) x1 x2 x3 x4 x5 x6 x7 x8 (Prod.fst (val (v19 x5 x6 x7 x8))) (Prod.fst (Prod.snd (val (v19 x5 x6 x7 x8)))) (Prod.fst (val (v19 x1 x2 x3 x4))) (Prod.fst (Prod.snd (val (v19 x1 x2 x3 x4)))))) (cX .ret { sl := [(6, .l 6 0), (7, .l 7 0), (12, .v (.sc (.bool (val (L6_164_0 (val (v33 (Prod.fst (val (v19 x5 x6 x7 x8))) (Prod.fst (Prod.snd (val (v19 x5 x6 x7 x8)))) (Prod.snd (Prod.snd (val (v19 x5 x6 x7 x8)))) (Prod.fst (val (v19 x1 x2 x3 x4))) (Prod.fst (Prod.snd (val (v19 x1 x2 x3 x4)))) (Prod.snd (Prod.snd (val (v19 x1 x2 x3 x4)))))) x1 x2 x3 x4 x5 x6 x7 x8 (Prod.fst (val (v19 x5 x6 x7 x8))) (Prod.fst (Prod.snd (val (v19 x5 x6 x7 x8)))) (Prod.fst (val (v19 x1 x2 x3 x4))) (Prod.fst (Prod.snd (val (v19 x1 x2 x3 x4))))))))), (14, .l 14 0), (15, .l 15 0), (16, .l 16 0), (18, .l 18 0)], lo := [], h := [], n0 := 0 }) none) none) (cond (ok (L6_164_0 false x1 x2 x3 x4 x5 x6 x7 x8 (Prod.fst (val (v19 x5 x6 x7 x8))) (Prod.fst (Prod.snd (val (v19 x5 x6 x7 x8)))) (Prod.fst (val (v19 x1 x2 x3 x4))) (Prod.fst (Prod.snd (val (v19 x1 x2 x3 x4)))))) (cX .ret { sl := [(6, .l 6 0), (7, .l 7 0), (12, .v (.sc (.bool (val (L6_164_0 false x1 x2 x3 x4 x5 x6 x7 x8 (Prod.fst (val (v19 x5 x6 x7 x8))) (Prod.fst (Prod.snd (val (v19 x5 x6 x7 x8)))) (Prod.fst (val (v19 x1 x2 x3 x4))) (Prod.fst (Prod.snd (val (v19 x1 x2 x3 x4))))))))), (14, .l 14 0), (15, .l 15 0), (16, .l 16 0), (18, .l 18 0)], lo := [], h := [], n0 := 0 }) none)) none) none) := by kernel_rfl
theorem lL6_140_0 (k : Nat) (x0 : Bool) (x1 : Int) (x2 : Int) (x3 : Int) (x4 : Int) (x5 : Int) (x6 : Int) (x7 : Int) (x8 : Int) (x9 : Int) (x10 : Int) (x11 : Int) (x12 : Int) (r : Bool) : L6_140_0 x0 x1 x2 x3 x4 x5 x6 x7 x8 x9 x10 x11 x12 = some r → pieceBody Try.prog (mkTn base o27 t27 6) (TM.evF Try.prog (mkTn base o27 t27) dOk (k + 40)) dOk (k + 40) (codeAt Try.prog (tn0 6) 6 140) 0 140 { sl := [(6, .l 6 0), (7, .l 7 0), (13, .v (.sc (.bool (x0)))), (14, .l 14 0), (15, .l 15 0), (16, .l 16 0), (18, .l 18 0)], lo := [(6, [.int .i64 (x1), .int .i64 (x2)]), (7, [.int .i64 (x3), .int .i64 (x4)]), (14, [.int .i64 (x5), .int .i64 (x6)]), (15, [.int .i64 (x7), .int .i64 (x8)]), (16, [.int .i64 (x9), .int .i64 (x10)]), (18, [.int .i64 (x11), .int .i64 (x12)])], h := [], n0 := 0 } (fun e s => some (e, s)) = some (xL6_140_0 x0 x1 x2 x3 x4 x5 x6 x7 x8 x9 x10 x11 x12 r) := by
  rw [bL6_140_0]
  unfold L6_140_0
  cases (ok (v19 x5 x6 x7 x8)) with
  | true =>
    cases (ok (v19 x1 x2 x3 x4)) with
    | true =>
      cases x0 with
      | true =>
        cases (ok (v33 (Prod.fst (val (v19 x5 x6 x7 x8))) (Prod.fst (Prod.snd (val (v19 x5 x6 x7 x8)))) (Prod.snd (Prod.snd (val (v19 x5 x6 x7 x8)))) (Prod.fst (val (v19 x1 x2 x3 x4))) (Prod.fst (Prod.snd (val (v19 x1 x2 x3 x4)))) (Prod.snd (Prod.snd (val (v19 x1 x2 x3 x4)))))) with
        | true =>
          cases (ok (L6_164_0 (val (v33 (Prod.fst (val (v19 x5 x6 x7 x8))) (Prod.fst (Prod.snd (val (v19 x5 x6 x7 x8)))) (Prod.snd (Prod.snd (val (v19 x5 x6 x7 x8)))) (Prod.fst (val (v19 x1 x2 x3 x4))) (Prod.fst (Prod.snd (val (v19 x1 x2 x3 x4)))) (Prod.snd (Prod.snd (val (v19 x1 x2 x3 x4)))))) x1 x2 x3 x4 x5 x6 x7 x8 (Prod.fst (val (v19 x5 x6 x7 x8))) (Prod.fst (Prod.snd (val (v19 x5 x6 x7 x8)))) (Prod.fst (val (v19 x1 x2 x3 x4))) (Prod.fst (Prod.snd (val (v19 x1 x2 x3 x4)))))) with
          | true =>
            intro h; cases h; rfl
          | false =>
            intro h; cases h
        | false =>
          intro h; cases h
      | false =>
        cases (ok (L6_164_0 false x1 x2 x3 x4 x5 x6 x7 x8 (Prod.fst (val (v19 x5 x6 x7 x8))) (Prod.fst (Prod.snd (val (v19 x5 x6 x7 x8)))) (Prod.fst (val (v19 x1 x2 x3 x4))) (Prod.fst (Prod.snd (val (v19 x1 x2 x3 x4)))))) with
        | true =>
          intro h; cases h; rfl
        | false =>
          intro h; cases h
    | false =>
      intro h; cases h
  | false =>
    intro h; cases h
def sL6_140_0 : TellS := fun S => match S with
  | { sl := [(6, .l 6 0), (7, .l 7 0), (13, .v (.sc (.bool (x0)))), (14, .l 14 0), (15, .l 15 0), (16, .l 16 0), (18, .l 18 0)], lo := [(6, [.int .i64 (x1), .int .i64 (x2)]), (7, [.int .i64 (x3), .int .i64 (x4)]), (14, [.int .i64 (x5), .int .i64 (x6)]), (15, [.int .i64 (x7), .int .i64 (x8)]), (16, [.int .i64 (x9), .int .i64 (x10)]), (18, [.int .i64 (x11), .int .i64 (x12)])], h := [], n0 := 0 } => some [(ok (L6_140_0 x0 x1 x2 x3 x4 x5 x6 x7 x8 x9 x10 x11 x12), .ret, { sl := [(6, .l 6 0), (7, .l 7 0), (12, .v (.sc (.bool ((val (L6_140_0 x0 x1 x2 x3 x4 x5 x6 x7 x8 x9 x10 x11 x12)))))), (14, .l 14 0), (15, .l 15 0), (16, .l 16 0), (18, .l 18 0)], lo := [], h := [], n0 := 0 })]
  | _ => none
theorem wL6_140_0 : NewTell Try.prog dOk base o27 t27 ((6, 140), sL6_140_0) := by
  refine ⟨(codeAt Try.prog (tn0 6) 6 140), 0, by kernel_rfl, ?_⟩
  intro S alts e S' h1 h2
  have h1 : sL6_140_0 S = some alts := h1
  unfold sL6_140_0 at h1
  split at h1
  · cases h1
    obtain ⟨hc0, rfl, rfl⟩ := pick_one h2
    exact ⟨0 + 40, (evPiece_code rfl).trans (lL6_140_0 0 _ _ _ _ _ _ _ _ _ _ _ _ _ _ (ok_val hc0))⟩
  · cases h1
/-- queuelablaw06.IntervalContains: the piece 140 -/
def L4_140_0 (x0 : Bool) (x1 : Int) (x2 : Int) (x3 : Int) (x4 : Int) (x5 : Int) (x6 : Int) (x7 : Int) (x8 : Int) : Option (Bool ⊕ Bool) := (cond (decide (x5 ≤ (0 : Int))) (cond (decide (x6 ≥ (0 : Int))) (some (.inl (x0))) (cond (ok (L4_156_0 x0 x1 x2 x3 x4 x5 x6 x7 x8)) (some (.inl (val (L4_156_0 x0 x1 x2 x3 x4 x5 x6 x7 x8)))) none)) (cond (ok (L4_156_1 x0 x1 x2 x3 x4 x5 x6 x7 x8)) (some (.inr (val (L4_156_1 x0 x1 x2 x3 x4 x5 x6 x7 x8)))) none))
def xL4_140_0 (x0 : Bool) (x1 : Int) (x2 : Int) (x3 : Int) (x4 : Int) (x5 : Int) (x6 : Int) (x7 : Int) (x8 : Int) : (Bool ⊕ Bool) → Ex × CS := fun r => match r with | .inl a0 => (.ret, { sl := [(4, .l 4 0), (5, .l 5 0), (8, .v (.sc (.bool (a0)))), (12, .l 12 0), (136, .l 5 0), (140, .l 5 1)], lo := [], h := [], n0 := 0 }) | .inr b0 => (.ret, { sl := [(4, .l 4 0), (5, .l 5 0), (8, .v (.sc (.bool (b0)))), (12, .l 12 0), (136, .l 5 0)], lo := [], h := [], n0 := 0 })
theorem bL4_140_0 (k : Nat) (cX : Ex → CS → Option (Ex × CS)) (x0 : Bool) (x1 : Int) (x2 : Int) (x3 : Int) (x4 : Int) (x5 : Int) (x6 : Int) (x7 : Int) (x8 : Int) : pieceBody Try.prog (mkTn base o27 t27 4) (TM.evF Try.prog (mkTn base o27 t27) dOk (k + 40)) dOk (k + 40) (codeAt Try.prog (tn0 4) 4 140) 0 140 { sl := [(4, .l 4 0), (5, .l 5 0), (9, .v (.sc (.bool (x0)))), (10, .v (.sc (.int .i64 (x1)))), (11, .v (.sc (.int .i64 (x2)))), (12, .l 12 0)], lo := [(4, [.int .i64 (x3), .int .i64 (x4)]), (5, [.int .i64 (x5), .int .i64 (x6)]), (12, [.int .i64 (x7), .int .i64 (x8)])], h := [], n0 := 0 } cX = (cond (decide (x5 ≤ (0 : Int))) (cond (decide (x6 ≥ (0 : Int))) (cX .ret { sl := [(4, .l 4 0), (5, .l 5 0), (8, .v (.sc (.bool (x0)))), (12, .l 12 0), (136, .l 5 0), (140, .l 5 1)], lo := [], h := [], n0 := 0 }) (cond (ok (L4_156_0 x0 x1 x2 x3 x4 x5 x6 x7 x8)) (cX .ret { sl := [(4, .l 4 0), (5, .l 5 0), (8, .v (.sc (.bool (val (L4_156_0 x0 x1 x2 x3 x4 x5 x6 x7 x8))))), (12, .l 12 0), (136, .l 5 0), (140, .l 5 1)], lo := [], h := [], n0 := 0 }) none)) (cond (ok (L4_156_1 x0 x1 x2 x3 x4 x5 x6 x7 x8)) (cX .ret { sl := [(4, .l 4 0), (5, .l 5 0), (8, .v (.sc (.bool (val (L4_156_1 x0 x1 x2 x3 x4 x5 x6 x7 x8))))), (12, .l 12 0), (136, .l 5 0)], lo := [], h := [], n0 := 0 }) none)) := by kernel_rfl
theorem lL4_140_0 (k : Nat) (x0 : Bool) (x1 : Int) (x2 : Int) (x3 : Int) (x4 : Int) (x5 : Int) (x6 : Int) (x7 : Int) (x8 : Int) (r : (Bool ⊕ Bool)) : L4_140_0 x0 x1 x2 x3 x4 x5 x6 x7 x8 = some r → pieceBody Try.prog (mkTn base o27 t27 4) (TM.evF Try.prog (mkTn base o27 t27) dOk (k + 40)) dOk (k + 40) (codeAt Try.prog (tn0 4) 4 140) 0 140 { sl := [(4, .l 4 0), (5, .l 5 0), (9, .v (.sc (.bool (x0)))), (10, .v (.sc (.int .i64 (x1)))), (11, .v (.sc (.int .i64 (x2)))), (12, .l 12 0)], lo := [(4, [.int .i64 (x3), .int .i64 (x4)]), (5, [.int .i64 (x5), .int .i64 (x6)]), (12, [.int .i64 (x7), .int .i64 (x8)])], h := [], n0 := 0 } (fun e s => some (e, s)) = some (xL4_140_0 x0 x1 x2 x3 x4 x5 x6 x7 x8 r) := by
  rw [bL4_140_0]
  unfold L4_140_0
  cases (decide (x5 ≤ (0 : Int))) with
  | true =>
    cases (decide (x6 ≥ (0 : Int))) with
    | true =>
      intro h; cases h; rfl
    | false =>
      cases (ok (L4_156_0 x0 x1 x2 x3 x4 x5 x6 x7 x8)) with
      | true =>
        intro h; cases h; rfl
      | false =>
        intro h; cases h
  | false =>
    cases (ok (L4_156_1 x0 x1 x2 x3 x4 x5 x6 x7 x8)) with
    | true =>
      intro h; cases h; rfl
    | false =>
      intro h; cases h
def sL4_140_0 : TellS := fun S => match S with
  | { sl := [(4, .l 4 0), (5, .l 5 0), (9, .v (.sc (.bool (x0)))), (10, .v (.sc (.int .i64 (x1)))), (11, .v (.sc (.int .i64 (x2)))), (12, .l 12 0)], lo := [(4, [.int .i64 (x3), .int .i64 (x4)]), (5, [.int .i64 (x5), .int .i64 (x6)]), (12, [.int .i64 (x7), .int .i64 (x8)])], h := [], n0 := 0 } => some [(isL (L4_140_0 x0 x1 x2 x3 x4 x5 x6 x7 x8), .ret, { sl := [(4, .l 4 0), (5, .l 5 0), (8, .v (.sc (.bool ((getL (L4_140_0 x0 x1 x2 x3 x4 x5 x6 x7 x8)))))), (12, .l 12 0), (136, .l 5 0), (140, .l 5 1)], lo := [], h := [], n0 := 0 }), (ok (getR (L4_140_0 x0 x1 x2 x3 x4 x5 x6 x7 x8)), .ret, { sl := [(4, .l 4 0), (5, .l 5 0), (8, .v (.sc (.bool ((val (getR (L4_140_0 x0 x1 x2 x3 x4 x5 x6 x7 x8))))))), (12, .l 12 0), (136, .l 5 0)], lo := [], h := [], n0 := 0 })]
  | _ => none
theorem wL4_140_0 : NewTell Try.prog dOk base o27 t27 ((4, 140), sL4_140_0) := by
  refine ⟨(codeAt Try.prog (tn0 4) 4 140), 0, by kernel_rfl, ?_⟩
  intro S alts e S' h1 h2
  have h1 : sL4_140_0 S = some alts := h1
  unfold sL4_140_0 at h1
  split at h1
  · cases h1
    rcases pick_cons h2 with ⟨hc0, rfl, rfl⟩ | h2
    · exact ⟨0 + 40, (evPiece_code rfl).trans (lL4_140_0 0 _ _ _ _ _ _ _ _ _ _ (isL_val hc0))⟩
    obtain ⟨hc1, rfl, rfl⟩ := pick_one h2
    exact ⟨0 + 40, (evPiece_code rfl).trans (lL4_140_0 0 _ _ _ _ _ _ _ _ _ _ (getR_val (ok_val hc1)))⟩
  · cases h1
def o28 : OrcT := o27
def t28 : TellT := ((3, 44), sL3_44_0) :: ((5, 164), sL5_164_0) :: ((6, 140), sL6_140_0) :: ((4, 140), sL4_140_0) :: t27
abbrev tn28 : FuncId → TAn := mkTn base o28 t28
theorem ok28 : TnOk Try.prog tn28 (mkA base) dOk := by
  have h0 : TnOk Try.prog (mkTn base o27 t27) (mkA base) dOk := ok27
  have h1 := tn_tell h0 h0 (p := ((4, 140), sL4_140_0)) wL4_140_0
  have h2 := tn_tell h0 h1 (p := ((6, 140), sL6_140_0)) wL6_140_0
  have h3 := tn_tell h0 h2 (p := ((5, 164), sL5_164_0)) wL5_164_0
  have h4 := tn_tell h0 h3 (p := ((3, 44), sL3_44_0)) wL3_44_0
  exact h4
end Go.Proofs.Ytojbaamhnfinpaa
set_option maxRecDepth 1000000
set_option linter.unusedVariables false
set_option maxHeartbeats 4000000
namespace Go.Proofs.Ytojbaamhnfinpaa
open Go Go.AM Go.TM Go.Proofs
/-- queuelablaw06.IntervalMatchesReference -/
def v3 (x0 : Int) (x1 : Int) (x2 : Int) (x3 : Int) : Option Bool := (cond (ok (v11 x0 x1 x2 x3)) (cond (ok (v12 x0 x1 x2 x3)) (cond (Prod.fst (val (v11 x0 x1 x2 x3)) == Prod.fst (val (v12 x0 x1 x2 x3)) && (Prod.fst (Prod.snd (val (v11 x0 x1 x2 x3))) == Prod.fst (Prod.snd (val (v12 x0 x1 x2 x3))) && true)) (cond (ok (L3_44_0 (Prod.snd (Prod.snd (val (v11 x0 x1 x2 x3))) == Prod.snd (Prod.snd (val (v12 x0 x1 x2 x3)))) x0 x1 x2 x3 (Prod.fst (val (v11 x0 x1 x2 x3))) (Prod.fst (Prod.snd (val (v11 x0 x1 x2 x3)))) (Prod.fst (val (v12 x0 x1 x2 x3))) (Prod.fst (Prod.snd (val (v12 x0 x1 x2 x3)))))) (some (val (L3_44_0 (Prod.snd (Prod.snd (val (v11 x0 x1 x2 x3))) == Prod.snd (Prod.snd (val (v12 x0 x1 x2 x3)))) x0 x1 x2 x3 (Prod.fst (val (v11 x0 x1 x2 x3))) (Prod.fst (Prod.snd (val (v11 x0 x1 x2 x3)))) (Prod.fst (val (v12 x0 x1 x2 x3))) (Prod.fst (Prod.snd (val (v12 x0 x1 x2 x3))))))) none) (cond (ok (L3_44_0 false x0 x1 x2 x3 (Prod.fst (val (v11 x0 x1 x2 x3))) (Prod.fst (Prod.snd (val (v11 x0 x1 x2 x3)))) (Prod.fst (val (v12 x0 x1 x2 x3))) (Prod.fst (Prod.snd (val (v12 x0 x1 x2 x3)))))) (some (val (L3_44_0 false x0 x1 x2 x3 (Prod.fst (val (v11 x0 x1 x2 x3))) (Prod.fst (Prod.snd (val (v11 x0 x1 x2 x3)))) (Prod.fst (val (v12 x0 x1 x2 x3))) (Prod.fst (Prod.snd (val (v12 x0 x1 x2 x3))))))) none)) none) none)
theorem ev3 (x0 : Int) (x1 : Int) (x2 : Int) (x3 : Int) : fnBody Try.prog (mkTn base o28 t28 3) (TM.evF Try.prog (mkTn base o28 t28) dOk 40) dOk 40 3 [.agg [.int .i64 (x0), .int .i64 (x1)], .agg [.int .i64 (x2), .int .i64 (x3)]] [] = (v3 x0 x1 x2 x3).bind fun r => some ([.sc (.bool (r))], []) := by
  have h : fnBody Try.prog (mkTn base o28 t28 3) (TM.evF Try.prog (mkTn base o28 t28) dOk 40) dOk 40 3 [.agg [.int .i64 (x0), .int .i64 (x1)], .agg [.int .i64 (x2), .int .i64 (x3)]] [] = (cond (ok (v11 x0 x1 x2 x3)) (cond (ok (v12 x0 x1 x2 x3)) (cond (Prod.fst (val (v11 x0 x1 x2 x3)) == Prod.fst (val (v12 x0 x1 x2 x3)) && (Prod.fst (Prod.snd (val (v11 x0 x1 x2 x3))) == Prod.fst (Prod.snd (val (v12 x0 x1 x2 x3))) && true)) (cond (ok (L3_44_0 (Prod.snd (Prod.snd (val (v11 x0 x1 x2 x3))) == Prod.snd (Prod.snd (val (v12 x0 x1 x2 x3)))) x0 x1 x2 x3 (Prod.fst (val (v11 x0 x1 x2 x3))) (Prod.fst (Prod.snd (val (v11 x0 x1 x2 x3)))) (Prod.fst (val (v12 x0 x1 x2 x3))) (Prod.fst (Prod.snd (val (v12 x0 x1 x2 x3)))))) (some ([.sc (.bool (val (L3_44_0 (Prod.snd (Prod.snd (val (v11 x0 x1 x2 x3))) == Prod.snd (Prod.snd (val (v12 x0 x1 x2 x3)))) x0 x1 x2 x3 (Prod.fst (val (v11 x0 x1 x2 x3))) (Prod.fst (Prod.snd (val (v11 x0 x1 x2 x3)))) (Prod.fst (val (v12 x0 x1 x2 x3))) (Prod.fst (Prod.snd (val (v12 x0 x1 x2 x3)))))))], [])) none) (cond (ok (L3_44_0 false x0 x1 x2 x3 (Prod.fst (val (v11 x0 x1 x2 x3))) (Prod.fst (Prod.snd (val (v11 x0 x1 x2 x3)))) (Prod.fst (val (v12 x0 x1 x2 x3))) (Prod.fst (Prod.snd (val (v12 x0 x1 x2 x3)))))) (some ([.sc (.bool (val (L3_44_0 false x0 x1 x2 x3 (Prod.fst (val (v11 x0 x1 x2 x3))) (Prod.fst (Prod.snd (val (v11 x0 x1 x2 x3)))) (Prod.fst (val (v12 x0 x1 x2 x3))) (Prod.fst (Prod.snd (val (v12 x0 x1 x2 x3)))))))], [])) none)) none) none) := by kernel_rfl
  rw [h]
  unfold v3
  cases (ok (v11 x0 x1 x2 x3)) with
  | true =>
    cases (ok (v12 x0 x1 x2 x3)) with
    | true =>
      cases (Prod.fst (val (v11 x0 x1 x2 x3)) == Prod.fst (val (v12 x0 x1 x2 x3)) && (Prod.fst (Prod.snd (val (v11 x0 x1 x2 x3))) == Prod.fst (Prod.snd (val (v12 x0 x1 x2 x3))) && true)) with
      | true =>
        cases (ok (L3_44_0 (Prod.snd (Prod.snd (val (v11 x0 x1 x2 x3))) == Prod.snd (Prod.snd (val (v12 x0 x1 x2 x3)))) x0 x1 x2 x3 (Prod.fst (val (v11 x0 x1 x2 x3))) (Prod.fst (Prod.snd (val (v11 x0 x1 x2 x3)))) (Prod.fst (val (v12 x0 x1 x2 x3))) (Prod.fst (Prod.snd (val (v12 x0 x1 x2 x3)))))) with
        | true =>
          rfl
        | false =>
          rfl
      | false =>
        cases (ok (L3_44_0 false x0 x1 x2 x3 (Prod.fst (val (v11 x0 x1 x2 x3))) (Prod.fst (Prod.snd (val (v11 x0 x1 x2 x3)))) (Prod.fst (val (v12 x0 x1 x2 x3))) (Prod.fst (Prod.snd (val (v12 x0 x1 x2 x3)))))) with
        | true =>
          rfl
        | false =>
          rfl
    | false =>
      rfl
  | false =>
    rfl
def sv3 : OrcS := fun al H => match al, H with
  | [.agg [.int .i64 (x0), .int .i64 (x1)], .agg [.int .i64 (x2), .int .i64 (x3)]], [] => some (ok (v3 x0 x1 x2 x3), [.sc (.bool ((val (v3 x0 x1 x2 x3))))], [])
  | _, _ => none
theorem wv3 : NewOrc Try.prog dOk base o28 t28 (3, sv3) := by
  intro al H q hq hq1
  have hq : sv3 al H = some q := hq
  unfold sv3 at hq
  split at hq
  · cases hq
    exact ⟨41, (ev3 _ _ _ _).trans (ok_bind hq1)⟩
  · cases hq
/-- queuelablaw06.IntervalLeast: the loop 0 -/
def L5_0_0 : Nat → Bool → Bool → Int → Int → Int → Int → Int → Option Bool
  | 0, _, _, _, _, _, _, _ => none
  | n + 1, x0, x1, x2, x3, x4, x5, x6 => (cond (decide (x2 < (5 : Int))) (cond (x2 == (0 : Int)) (cond (ok (v11 x3 x4 x5 x6)) (cond (isL (L5_164_0 x0 x1 x2 (Prod.snd (Prod.snd (val (v11 x3 x4 x5 x6)))) x2 x3 x4 x5 x6 (Prod.fst (val (v11 x3 x4 x5 x6))) (Prod.fst (Prod.snd (val (v11 x3 x4 x5 x6)))))) (L5_0_0 n (getL (L5_164_0 x0 x1 x2 (Prod.snd (Prod.snd (val (v11 x3 x4 x5 x6)))) x2 x3 x4 x5 x6 (Prod.fst (val (v11 x3 x4 x5 x6))) (Prod.fst (Prod.snd (val (v11 x3 x4 x5 x6)))))) (x1) (IntKind.wrap IntKind.i64 (x2 + (1 : Int))) (x3) (x4) (x5) (x6)) (cond (ok (getR (L5_164_0 x0 x1 x2 (Prod.snd (Prod.snd (val (v11 x3 x4 x5 x6)))) x2 x3 x4 x5 x6 (Prod.fst (val (v11 x3 x4 x5 x6))) (Prod.fst (Prod.snd (val (v11 x3 x4 x5 x6))))))) (L5_0_0 n (val (getR (L5_164_0 x0 x1 x2 (Prod.snd (Prod.snd (val (v11 x3 x4 x5 x6)))) x2 x3 x4 x5 x6 (Prod.fst (val (v11 x3 x4 x5 x6))) (Prod.fst (Prod.snd (val (v11 x3 x4 x5 x6))))))) (x1) (IntKind.wrap IntKind.i64 (x2 + (1 : Int))) (x3) (x4) (x5) (x6)) none)) none) (cond (x2 == (1 : Int)) (cond (ok (v13 x3 x4 x5 x6)) (cond (isL (L5_164_0 x0 x1 x2 (Prod.snd (Prod.snd (val (v13 x3 x4 x5 x6)))) x2 x3 x4 x5 x6 (Prod.fst (val (v13 x3 x4 x5 x6))) (Prod.fst (Prod.snd (val (v13 x3 x4 x5 x6)))))) (L5_0_0 n (getL (L5_164_0 x0 x1 x2 (Prod.snd (Prod.snd (val (v13 x3 x4 x5 x6)))) x2 x3 x4 x5 x6 (Prod.fst (val (v13 x3 x4 x5 x6))) (Prod.fst (Prod.snd (val (v13 x3 x4 x5 x6)))))) (x1) (IntKind.wrap IntKind.i64 (x2 + (1 : Int))) (x3) (x4) (x5) (x6)) (cond (ok (getR (L5_164_0 x0 x1 x2 (Prod.snd (Prod.snd (val (v13 x3 x4 x5 x6)))) x2 x3 x4 x5 x6 (Prod.fst (val (v13 x3 x4 x5 x6))) (Prod.fst (Prod.snd (val (v13 x3 x4 x5 x6))))))) (L5_0_0 n (val (getR (L5_164_0 x0 x1 x2 (Prod.snd (Prod.snd (val (v13 x3 x4 x5 x6)))) x2 x3 x4 x5 x6 (Prod.fst (val (v13 x3 x4 x5 x6))) (Prod.fst (Prod.snd (val (v13 x3 x4 x5 x6))))))) (x1) (IntKind.wrap IntKind.i64 (x2 + (1 : Int))) (x3) (x4) (x5) (x6)) none)) none) (cond (x2 == (2 : Int)) (cond (ok (v15 x3 x4 x5 x6)) (cond (isL (L5_164_0 x0 x1 x2 (Prod.snd (Prod.snd (val (v15 x3 x4 x5 x6)))) x2 x3 x4 x5 x6 (Prod.fst (val (v15 x3 x4 x5 x6))) (Prod.fst (Prod.snd (val (v15 x3 x4 x5 x6)))))) (L5_0_0 n (getL (L5_164_0 x0 x1 x2 (Prod.snd (Prod.snd (val (v15 x3 x4 x5 x6)))) x2 x3 x4 x5 x6 (Prod.fst (val (v15 x3 x4 x5 x6))) (Prod.fst (Prod.snd (val (v15 x3 x4 x5 x6)))))) (x1) (IntKind.wrap IntKind.i64 (x2 + (1 : Int))) (x3) (x4) (x5) (x6)) (cond (ok (getR (L5_164_0 x0 x1 x2 (Prod.snd (Prod.snd (val (v15 x3 x4 x5 x6)))) x2 x3 x4 x5 x6 (Prod.fst (val (v15 x3 x4 x5 x6))) (Prod.fst (Prod.snd (val (v15 x3 x4 x5 x6))))))) (L5_0_0 n (val (getR (L5_164_0 x0 x1 x2 (Prod.snd (Prod.snd (val (v15 x3 x4 x5 x6)))) x2 x3 x4 x5 x6 (Prod.fst (val (v15 x3 x4 x5 x6))) (Prod.fst (Prod.snd (val (v15 x3 x4 x5 x6))))))) (x1) (IntKind.wrap IntKind.i64 (x2 + (1 : Int))) (x3) (x4) (x5) (x6)) none)) none) (cond (x2 == (3 : Int)) (cond (ok (v17 x3 x4 x5 x6)) (cond (isL (L5_164_0 x0 x1 x2 (Prod.snd (Prod.snd (val (v17 x3 x4 x5 x6)))) x2 x3 x4 x5 x6 (Prod.fst (val (v17 x3 x4 x5 x6))) (Prod.fst (Prod.snd (val (v17 x3 x4 x5 x6)))))) (L5_0_0 n (getL (L5_164_0 x0 x1 x2 (Prod.snd (Prod.snd (val (v17 x3 x4 x5 x6)))) x2 x3 x4 x5 x6 (Prod.fst (val (v17 x3 x4 x5 x6))) (Prod.fst (Prod.snd (val (v17 x3 x4 x5 x6)))))) (x1) (IntKind.wrap IntKind.i64 (x2 + (1 : Int))) (x3) (x4) (x5) (x6)) (cond (ok (getR (L5_164_0 x0 x1 x2 (Prod.snd (Prod.snd (val (v17 x3 x4 x5 x6)))) x2 x3 x4 x5 x6 (Prod.fst (val (v17 x3 x4 x5 x6))) (Prod.fst (Prod.snd (val (v17 x3 x4 x5 x6))))))) (L5_0_0 n (val (getR (L5_164_0 x0 x1 x2 (Prod.snd (Prod.snd (val (v17 x3 x4 x5 x6)))) x2 x3 x4 x5 x6 (Prod.fst (val (v17 x3 x4 x5 x6))) (Prod.fst (Prod.snd (val (v17 x3 x4 x5 x6))))))) (x1) (IntKind.wrap IntKind.i64 (x2 + (1 : Int))) (x3) (x4) (x5) (x6)) none)) none) (cond (ok (v19 x3 x4 x5 x6)) (cond (isL (L5_164_0 x0 x1 x2 (Prod.snd (Prod.snd (val (v19 x3 x4 x5 x6)))) x2 x3 x4 x5 x6 (Prod.fst (val (v19 x3 x4 x5 x6))) (Prod.fst (Prod.snd (val (v19 x3 x4 x5 x6)))))) (L5_0_0 n (getL (L5_164_0 x0 x1 x2 (Prod.snd (Prod.snd (val (v19 x3 x4 x5 x6)))) x2 x3 x4 x5 x6 (Prod.fst (val (v19 x3 x4 x5 x6))) (Prod.fst (Prod.snd (val (v19 x3 x4 x5 x6)))))) (x1) (IntKind.wrap IntKind.i64 (x2 + (1 : Int))) (x3) (x4) (x5) (x6)) (cond (ok (getR (L5_164_0 x0 x1 x2 (Prod.snd (Prod.snd (val (v19 x3 x4 x5 x6)))) x2 x3 x4 x5 x6 (Prod.fst (val (v19 x3 x4 x5 x6))) (Prod.fst (Prod.snd (val (v19 x3 x4 x5 x6))))))) (L5_0_0 n (val (getR (L5_164_0 x0 x1 x2 (Prod.snd (Prod.snd (val (v19 x3 x4 x5 x6)))) x2 x3 x4 x5 x6 (Prod.fst (val (v19 x3 x4 x5 x6))) (Prod.fst (Prod.snd (val (v19 x3 x4 x5 x6))))))) (x1) (IntKind.wrap IntKind.i64 (x2 + (1 : Int))) (x3) (x4) (x5) (x6)) none)) none))))) (some (x0)))
theorem qL5_0_0 (n : Nat) (x0 : Bool) (x1 : Bool) (x2 : Int) (x3 : Int) (x4 : Int) (x5 : Int) (x6 : Int) : L5_0_0 (n + 1) x0 x1 x2 x3 x4 x5 x6 = (cond (decide (x2 < (5 : Int))) (cond (x2 == (0 : Int)) (cond (ok (v11 x3 x4 x5 x6)) (cond (isL (L5_164_0 x0 x1 x2 (Prod.snd (Prod.snd (val (v11 x3 x4 x5 x6)))) x2 x3 x4 x5 x6 (Prod.fst (val (v11 x3 x4 x5 x6))) (Prod.fst (Prod.snd (val (v11 x3 x4 x5 x6)))))) (L5_0_0 n (getL (L5_164_0 x0 x1 x2 (Prod.snd (Prod.snd (val (v11 x3 x4 x5 x6)))) x2 x3 x4 x5 x6 (Prod.fst (val (v11 x3 x4 x5 x6))) (Prod.fst (Prod.snd (val (v11 x3 x4 x5 x6)))))) (x1) (IntKind.wrap IntKind.i64 (x2 + (1 : Int))) (x3) (x4) (x5) (x6)) (cond (ok (getR (L5_164_0 x0 x1 x2 (Prod.snd (Prod.snd (val (v11 x3 x4 x5 x6)))) x2 x3 x4 x5 x6 (Prod.fst (val (v11 x3 x4 x5 x6))) (Prod.fst (Prod.snd (val (v11 x3 x4 x5 x6))))))) (L5_0_0 n (val (getR (L5_164_0 x0 x1 x2 (Prod.snd (Prod.snd (val (v11 x3 x4 x5 x6)))) x2 x3 x4 x5 x6 (Prod.fst (val (v11 x3 x4 x5 x6))) (Prod.fst (Prod.snd (val (v11 x3 x4 x5 x6))))))) (x1) (IntKind.wrap IntKind.i64 (x2 + (1 : Int))) (x3) (x4) (x5) (x6)) none)) none) (cond (x2 == (1 : Int)) (cond (ok (v13 x3 x4 x5 x6)) (cond (isL (L5_164_0 x0 x1 x2 (Prod.snd (Prod.snd (val (v13 x3 x4 x5 x6)))) x2 x3 x4 x5 x6 (Prod.fst (val (v13 x3 x4 x5 x6))) (Prod.fst (Prod.snd (val (v13 x3 x4 x5 x6)))))) (L5_0_0 n (getL (L5_164_0 x0 x1 x2 (Prod.snd (Prod.snd (val (v13 x3 x4 x5 x6)))) x2 x3 x4 x5 x6 (Prod.fst (val (v13 x3 x4 x5 x6))) (Prod.fst (Prod.snd (val (v13 x3 x4 x5 x6)))))) (x1) (IntKind.wrap IntKind.i64 (x2 + (1 : Int))) (x3) (x4) (x5) (x6)) (cond (ok (getR (L5_164_0 x0 x1 x2 (Prod.snd (Prod.snd (val (v13 x3 x4 x5 x6)))) x2 x3 x4 x5 x6 (Prod.fst (val (v13 x3 x4 x5 x6))) (Prod.fst (Prod.snd (val (v13 x3 x4 x5 x6))))))) (L5_0_0 n (val (getR (L5_164_0 x0 x1 x2 (Prod.snd (Prod.snd (val (v13 x3 x4 x5 x6)))) x2 x3 x4 x5 x6 (Prod.fst (val (v13 x3 x4 x5 x6))) (Prod.fst (Prod.snd (val (v13 x3 x4 x5 x6))))))) (x1) (IntKind.wrap IntKind.i64 (x2 + (1 : Int))) (x3) (x4) (x5) (x6)) none)) none) (cond (x2 == (2 : Int)) (cond (ok (v15 x3 x4 x5 x6)) (cond (isL (L5_164_0 x0 x1 x2 (Prod.snd (Prod.snd (val (v15 x3 x4 x5 x6)))) x2 x3 x4 x5 x6 (Prod.fst (val (v15 x3 x4 x5 x6))) (Prod.fst (Prod.snd (val (v15 x3 x4 x5 x6)))))) (L5_0_0 n (getL (L5_164_0 x0 x1 x2 (Prod.snd (Prod.snd (val (v15 x3 x4 x5 x6)))) x2 x3 x4 x5 x6 (Prod.fst (val (v15 x3 x4 x5 x6))) (Prod.fst (Prod.snd (val (v15 x3 x4 x5 x6)))))) (x1) (IntKind.wrap IntKind.i64 (x2 + (1 : Int))) (x3) (x4) (x5) (x6)) (cond (ok (getR (L5_164_0 x0 x1 x2 (Prod.snd (Prod.snd (val (v15 x3 x4 x5 x6)))) x2 x3 x4 x5 x6 (Prod.fst (val (v15 x3 x4 x5 x6))) (Prod.fst (Prod.snd (val (v15 x3 x4 x5 x6))))))) (L5_0_0 n (val (getR (L5_164_0 x0 x1 x2 (Prod.snd (Prod.snd (val (v15 x3 x4 x5 x6)))) x2 x3 x4 x5 x6 (Prod.fst (val (v15 x3 x4 x5 x6))) (Prod.fst (Prod.snd (val (v15 x3 x4 x5 x6))))))) (x1) (IntKind.wrap IntKind.i64 (x2 + (1 : Int))) (x3) (x4) (x5) (x6)) none)) none) (cond (x2 == (3 : Int)) (cond (ok (v17 x3 x4 x5 x6)) (cond (isL (L5_164_0 x0 x1 x2 (Prod.snd (Prod.snd (val (v17 x3 x4 x5 x6)))) x2 x3 x4 x5 x6 (Prod.fst (val (v17 x3 x4 x5 x6))) (Prod.fst (Prod.snd (val (v17 x3 x4 x5 x6)))))) (L5_0_0 n (getL (L5_164_0 x0 x1 x2 (Prod.snd (Prod.snd (val (v17 x3 x4 x5 x6)))) x2 x3 x4 x5 x6 (Prod.fst (val (v17 x3 x4 x5 x6))) (Prod.fst (Prod.snd (val (v17 x3 x4 x5 x6)))))) (x1) (IntKind.wrap IntKind.i64 (x2 + (1 : Int))) (x3) (x4) (x5) (x6)) (cond (ok (getR (L5_164_0 x0 x1 x2 (Prod.snd (Prod.snd (val (v17 x3 x4 x5 x6)))) x2 x3 x4 x5 x6 (Prod.fst (val (v17 x3 x4 x5 x6))) (Prod.fst (Prod.snd (val (v17 x3 x4 x5 x6))))))) (L5_0_0 n (val (getR (L5_164_0 x0 x1 x2 (Prod.snd (Prod.snd (val (v17 x3 x4 x5 x6)))) x2 x3 x4 x5 x6 (Prod.fst (val (v17 x3 x4 x5 x6))) (Prod.fst (Prod.snd (val (v17 x3 x4 x5 x6))))))) (x1) (IntKind.wrap IntKind.i64 (x2 + (1 : Int))) (x3) (x4) (x5) (x6)) none)) none) (cond (ok (v19 x3 x4 x5 x6)) (cond (isL (L5_164_0 x0 x1 x2 (Prod.snd (Prod.snd (val (v19 x3 x4 x5 x6)))) x2 x3 x4 x5 x6 (Prod.fst (val (v19 x3 x4 x5 x6))) (Prod.fst (Prod.snd (val (v19 x3 x4 x5 x6)))))) (L5_0_0 n (getL (L5_164_0 x0 x1 x2 (Prod.snd (Prod.snd (val (v19 x3 x4 x5 x6)))) x2 x3 x4 x5 x6 (Prod.fst (val (v19 x3 x4 x5 x6))) (Prod.fst (Prod.snd (val (v19 x3 x4 x5 x6)))))) (x1) (IntKind.wrap IntKind.i64 (x2 + (1 : Int))) (x3) (x4) (x5) (x6)) (cond (ok (getR (L5_164_0 x0 x1 x2 (Prod.snd (Prod.snd (val (v19 x3 x4 x5 x6)))) x2 x3 x4 x5 x6 (Prod.fst (val (v19 x3 x4 x5 x6))) (Prod.fst (Prod.snd (val (v19 x3 x4 x5 x6))))))) (L5_0_0 n (val (getR (L5_164_0 x0 x1 x2 (Prod.snd (Prod.snd (val (v19 x3 x4 x5 x6)))) x2 x3 x4 x5 x6 (Prod.fst (val (v19 x3 x4 x5 x6))) (Prod.fst (Prod.snd (val (v19 x3 x4 x5 x6))))))) (x1) (IntKind.wrap IntKind.i64 (x2 + (1 : Int))) (x3) (x4) (x5) (x6)) none)) none))))) (some (x0))) := by rfl
def xL5_0_0 (x0 : Bool) (x1 : Bool) (x2 : Int) (x3 : Int) (x4 : Int) (x5 : Int) (x6 : Int) : Bool → Ex × CS := fun r => ((.exit 0), { sl := [(2, .l 2 0), (3, .l 3 0), (5, .v (.sc (.bool (r))))], lo := [], h := [], n0 := 0 })
theorem bL5_0_0 (k : Nat) (cN : CS → Option (Ex × CS)) (cX : Ex → CS → Option (Ex × CS)) (x0 : Bool) (x1 : Bool) (x2 : Int) (x3 : Int) (x4 : Int) (x5 : Int) (x6 : Int) : loopBody Try.prog (mkTn base o28 t28 5) (TM.evF Try.prog (mkTn base o28 t28) dOk (k + 40)) dOk (k + 40) (codeAt Try.prog (tn0 5) 5 0) 0 0 { sl := [(2, .l 2 0), (3, .l 3 0), (5, .v (.sc (.bool (x0)))), (6, .v (.sc (.bool (x1)))), (35, .v (.sc (.int .i64 (x2))))], lo := [(2, [.int .i64 (x3), .int .i64 (x4)]), (3, [.int .i64 (x5), .int .i64 (x6)])], h := [], n0 := 0 } cN cX = (cond (decide (x2 < (5 : Int))) (cond (x2 == (0 : Int)) (cond (ok (v11 x3 x4 x5 x6)) (cond (isL (L5_164_0 x0 x1 x2 (Prod.snd (Prod.snd (val (v11 x3 x4 x5 x6)))) x2 x3 x4 x5 x6 (Prod.fst (val (v11 x3 x4 x5 x6))) (Prod.fst (Prod.snd (val (v11 x3 x4 x5 x6)))))) (cN { sl := [(2, .l 2 0), (3, .l 3 0), (5, .v (.sc (.bool (getL (L5_164_0 x0 x1 x2 (Prod.snd (Prod.snd (val (v11 x3 x4 x5 x6)))) x2 x3 x4 x5 x6 (Prod.fst (val (v11 x3 x4 x5 x6))) (Prod.fst (Prod.snd (val (v11 x3 x4 x5 x6))))))))), (6, .v (.sc (.bool (x1)))), (35, .v (.sc (.int .i64 (IntKind.wrap IntKind.i64 (x2 + (1 : Int))))))], lo := [(2, [.int .i64 (x3), .int .i64 (x4)]), (3, [.int .i64 (x5), .int .i64 (x6)])], h := [], n0 := 0 }) (cond (ok (getR (L5_164_0 x0 x1 x2 (Prod.snd (Prod.snd (val (v11 x3 x4 x5 x6)))) x2 x3 x4 x5 x6 (Prod.fst (val (v11 x3 x4 x5 x6))) (Prod.fst (Prod.snd (val (v11 x3 x4 x5 x6))))))) (cN { sl := [(2, .l 2 0), (3, .l 3 0), (5, .v (.sc (.bool (val (getR (L5_164_0 x0 x1 x2 (Prod.snd (Prod.snd (val (v11 x3 x4 x5 x6)))) x2 x3 x4 x5 x6 (Prod.fst (val (v11 x3 x4 x5 x6))) (Prod.fst (Prod.snd (val (v11 x3 x4 x5 x6)))))))))), (6, .v (.sc (.bool (x1)))), (35, .v (.sc (.int .i64 (IntKind.wrap IntKind.i64 (x2 + (1 : Int))))))], lo := [(2, [.int .i64 (x3), .int .i64 (x4)]), (3, [.int .i64 (x5), .int .i64 (x6)])], h := [], n0 := 0 }) none)) none) (cond (x2 == (1 : Int)) (cond (ok (v13 x3 x4 x5 x6)) (cond (isL (L5_164_0 x0 x1 x2 (Prod.snd (Prod.snd (val (v13 x3 x4 x5 x6)))) x2 x3 x4 x5 x6 (Prod.fst (val (v13 x3 x4 x5 x6))) (Prod.fst (Prod.snd (val (v13 x3 x4 x5 x6)))))) (cN { sl := [(2, .l 2 0), (3, .l 3 0), (5, .v (.sc (.bool (getL (L5_164_0 x0 x1 x2 (Prod.snd (Prod.snd (val (v13 x3 x4 x5 x6)))) x2 x3 x4 x5 x6 (Prod.fst (val (v13 x3 x4 x5 x6))) (Prod.fst (Prod.snd (val (v13 x3 x4 x5 x6))))))))), (6, .v (.sc (.bool (x1)))), (35, .v (.sc (.int .i64 (IntKind.wrap IntKind.i64 (x2 + (1 : Int))))))], lo := [(2, [.int .i64 (x3), .int .i64 (x4)]), (3, [.int .i64 (x5), .int .i64 (x6)])], h := [], n0 := 0 }) (cond (ok (getR (L5_164_0 x0 x1 x2 (Prod.snd (Prod.snd (val (v13 x3 x4 x5 x6)))) x2 x3 x4 x5 x6 (Prod.fst (val (v13 x3 x4 x5 x6))) (Prod.fst (Prod.snd (val (v13 x3 x4 x5 x6))))))) (cN { sl := [(2, .l 2 0), (3, .l 3 0), (5, .v (.sc (.bool (val (getR (L5_164_0 x0 x1 x2 (Prod.snd (Prod.snd (val (v13 x3 x4 x5 x6)))) x2 x3 x4 x5 x6 (Prod.fst (val (v13 x3 x4 x5 x6))) (Prod.fst (Prod.snd (val (v13 x3 x4 x5 x6)))))))))), (6, .v (.sc (.bool (x1)))), (35, .v (.sc (.int .i64 (IntKind.wrap IntKind.i64 (x2 + (1 : Int))))))], lo := [(2, [.int .i64 (x3), .int .i64 (x4)]), (3, [.int .i64 (x5), .int .i64 (x6)])], h := [], n0 := 0 }) none)) none) (cond (x2 == (2 : Int)) (cond (ok (v15 x3 x4 x5 x6)) (cond (isL (L5_164_0 x0 x1 x2 (Prod.snd (Prod.snd (val (v15 x3 x4 x5 x6)))) x2 x3 x4 x5 x6 (Prod.fst (val (v15 x3 x4 x5 x6))) (Prod.fst (Prod.snd (val (v15 x3 x4 x5 x6)))))) (cN { sl := [(2, .l 2 0), (3, .l 3 0), (5, .v (.sc (.bool (getL (L5_164_0 x0 x1 x2 (Prod.snd (Prod.snd (val (v15 x3 x4 x5 x6)))) x2 x3 x4 x5 x6 (Prod.fst (val (v15 x3 x4 x5 x6))) (Prod.fst (Prod.snd (val (v15 x3 x4 x5 x6))))))))), (6, .v (.sc (.bool (x1)))), (35, .v (.sc (.int .i64 (IntKind.wrap IntKind.i64 (x2 + (1 : Int))))))], lo := [(2, [.int .i64 (x3), .int .i64 (x4)]), (3, [.int .i64 (x5), .int .i64 (x6)])], h := [], n0 := 0 }) (cond (ok (getR (L5_164_0 x0 x1 x2 (Prod.snd (Prod.snd (val (v15 x3 x4 x5 x6)))) x2 x3 x4 x5 x6 (Prod.fst (val (v15 x3 x4 x5 x6))) (Prod.fst (Prod.snd (val (v15 x3 x4 x5 x6))))))) (cN { sl := [(2, .l 2 0), (3, .l 3 0), (5, .v (.sc (.bool (val (getR (L5_164_0 x0 x1 x2 (Prod.snd (Prod.snd (val (v15 x3 x4 x5 x6)))) x2 x3 x4 x5 x6 (Prod.fst (val (v15 x3 x4 x5 x6))) (Prod.fst (Prod.snd (val (v15 x3 x4 x5 x6)))))))))), (6, .v (.sc (.bool (x1)))), (35, .v (.sc (.int .i64 (IntKind.wrap IntKind.i64 (x2 + (1 : Int))))))], lo := [(2, [.int .i64 (x3), .int .i64 (x4)]), (3, [.int .i64 (x5), .int .i64 (x6)])], h := [], n0 := 0 }) none)) none) (cond (x2 == (3 : Int)) (cond (ok (v17 x3 x4 x5 x6)) (cond (isL (L5_164_0 x0 x1 x2 (Prod.snd (Prod.snd (val (v17 x3 x4 x5 x6)))) x2 x3 x4 x5 x6 (Prod.fst (val (v17 x3 x4 x5 x6))) (Prod.fst (Prod.snd (val (v17 x3 x4 x5 x6)))))) (cN { sl := [(2, .l 2 0), (3, .l 3 0), (5, .v (.sc (.bool (getL (L5_164_0 x0 x1 x2 (Prod.snd (Prod.snd (val (v17 x3 x4 x5 x6)))) x2 x3 x4 x5 x6 (Prod.fst (val (v17 x3 x4 x5 x6))) (Prod.fst (Prod.snd (val (v17 x3 x4 x5 x6))))))))), (6, .v (.sc (.bool (x1)))), (35, .v (.sc (.int .i64 (IntKind.wrap IntKind.i64 (x2 + (1 : Int))))))], lo := [(2, [.int .i64 (x3), .int .i64 (x4)]), (3, [.int .i64 (x5), .int .i64 (x6)])], h := [], n0 := 0 }) (cond (ok (getR (L5_164_0 x0 x1 x2 (Prod.snd (Prod.snd (val (v17 x3 x4 x5 x6)))) x2 x3 x4 x5 x6 (Prod.fst (val (v17 x3 x4 x5 x6))) (Prod.fst (Prod.snd (val (v17 x3 x4 x5 x6))))))) (cN { sl := [(2, .l 2 0), (3, .l 3 0), (5, .v (.sc (.bool (val (getR (L5_164_0 x0 x1 x2 (Prod.snd (Prod.snd (val (v17 x3 x4 x5 x6)))) x2 x3 x4 x5 x6 (Prod.fst (val (v17 x3 x4 x5 x6))) (Prod.fst (Prod.snd (val (v17 x3 x4 x5 x6)))))))))), (6, .v (.sc (.bool (x1)))), (35, .v (.sc (.int .i64 (IntKind.wrap IntKind.i64 (x2 + (1 : Int))))))], lo := [(2, [.int .i64 (x3), .int .i64 (x4)]), (3, [.int .i64 (x5), .int .i64 (x6)])], h := [], n0 := 0 }) none)) none) (cond (ok (v19 x3 x4 x5 x6)) (cond (isL (L5_164_0 x0 x1 x2 (Prod.snd (Prod.snd (val (v19 x3 x4 x5 x6)))) x2 x3 x4 x5 x6 (Prod.fst (val (v19 x3 x4 x5 x6))) (Prod.fst (Prod.snd (val (v19 x3 x4 x5 x6)))))) (cN { sl := [(2, .l 2 0), (3, .l 3 0), (5, .v (.sc (.bool (getL (L5_164_0 x0 x1 x2 (Prod.snd (Prod.snd (val (v19 x3 x4 x5 x6)))) x2 x3 x4 x5 x6 (Prod.fst (val (v19 x3 x4 x5 x6))) (Prod.fst (Prod.snd (val (v19 x3 x4 x5 x6))))))))), (6, .v (.sc (.bool (x1)))), (35, .v (.sc (.int .i64 (IntKind.wrap IntKind.i64 (x2 + (1 : Int))))))], lo := [(2, [.int .i64 (x3), .int .i64 (x4)]), (3, [.int .i64 (x5), .int .i64 (x6)])], h := [], n0 := 0 }) (cond (ok (getR (L5_164_0 x0 x1 x2 (Prod.snd (Prod.snd (val (v19 x3 x4 x5 x6)))) x2 x3 x4 x5 x6 (Prod.fst (val (v19 x3 x4 x5 x6))) (Prod.fst (Prod.snd (val (v19 x3 x4 x5 x6))))))) (cN { sl := [(2, .l 2 0), (3, .l 3 0), (5, .v (.sc (.bool (val (getR (L5_164_0 x0 x1 x2 (Prod.snd (Prod.snd (val (v19 x3 x4 x5 x6)))) x2 x3 x4 x5 x6 (Prod.fst (val (v19 x3 x4 x5 x6))) (Prod.fst (Prod.snd (val (v19 x3 x4 x5 x6)))))))))), (6, .v (.sc (.bool (x1)))), (35, .v (.sc (.int .i64 (IntKind.wrap IntKind.i64 (x2 + (1 : Int))))))], lo := [(2, [.int .i64 (x3), .int .i64 (x4)]), (3, [.int .i64 (x5), .int .i64 (x6)])], h := [], n0 := 0 }) none)) none))))) (cX (.exit 0) { sl := [(2, .l 2 0), (3, .l 3 0), (5, .v (.sc (.bool (x0))))], lo := [], h := [], n0 := 0 })) := by kernel_rfl
theorem lL5_0_0 (k m : Nat) : ∀ (n : Nat) (x0 : Bool) (x1 : Bool) (x2 : Int) (x3 : Int) (x4 : Int) (x5 : Int) (x6 : Int) (r : Bool), L5_0_0 n x0 x1 x2 x3 x4 x5 x6 = some r → loopE Try.prog (mkTn base o28 t28 5) (TM.evF Try.prog (mkTn base o28 t28) dOk (k + 40)) dOk (k + 40) (codeAt Try.prog (tn0 5) 5 0) 0 0 (n + m) { sl := [(2, .l 2 0), (3, .l 3 0), (5, .v (.sc (.bool (x0)))), (6, .v (.sc (.bool (x1)))), (35, .v (.sc (.int .i64 (x2))))], lo := [(2, [.int .i64 (x3), .int .i64 (x4)]), (3, [.int .i64 (x5), .int .i64 (x6)])], h := [], n0 := 0 } = some (xL5_0_0 x0 x1 x2 x3 x4 x5 x6 r) := by
  intro n
  induction n with
  | zero => intro _ _ _ _ _ _ _ r h; cases h
  | succ n ih =>
    intro x0 x1 x2 x3 x4 x5 x6 r
    rw [show n + 1 + m = n + m + 1 by omega, loop_step, bL5_0_0, qL5_0_0]
    cases (decide (x2 < (5 : Int))) with
    | true =>
      cases (x2 == (0 : Int)) with
      | true =>
        cases (ok (v11 x3 x4 x5 x6)) with
        | true =>
          cases (isL (L5_164_0 x0 x1 x2 (Prod.snd (Prod.snd (val (v11 x3 x4 x5 x6)))) x2 x3 x4 x5 x6 (Prod.fst (val (v11 x3 x4 x5 x6))) (Prod.fst (Prod.snd (val (v11 x3 x4 x5 x6)))))) with
          | true =>
            exact ih _ _ _ _ _ _ _ r
          | false =>
            cases (ok (getR (L5_164_0 x0 x1 x2 (Prod.snd (Prod.snd (val (v11 x3 x4 x5 x6)))) x2 x3 x4 x5 x6 (Prod.fst (val (v11 x3 x4 x5 x6))) (Prod.fst (Prod.snd (val (v11 x3 x4 x5 x6))))))) with
            | true =>
              exact ih _ _ _ _ _ _ _ r
            | false =>
              intro h; cases h
        | false =>
          intro h; cases h
      | false =>
        cases (x2 == (1 : Int)) with
        | true =>
          cases (ok (v13 x3 x4 x5 x6)) with
          | true =>
            cases (isL (L5_164_0 x0 x1 x2 (Prod.snd (Prod.snd (val (v13 x3 x4 x5 x6)))) x2 x3 x4 x5 x6 (Prod.fst (val (v13 x3 x4 x5 x6))) (Prod.fst (Prod.snd (val (v13 x3 x4 x5 x6)))))) with
            | true =>
              exact ih _ _ _ _ _ _ _ r
            | false =>
              cases (ok (getR (L5_164_0 x0 x1 x2 (Prod.snd (Prod.snd (val (v13 x3 x4 x5 x6)))) x2 x3 x4 x5 x6 (Prod.fst (val (v13 x3 x4 x5 x6))) (Prod.fst (Prod.snd (val (v13 x3 x4 x5 x6))))))) with
              | true =>
                exact ih _ _ _ _ _ _ _ r
              | false =>
                intro h; cases h
          | false =>
            intro h; cases h
        | false =>
          cases (x2 == (2 : Int)) with
          | true =>
            cases (ok (v15 x3 x4 x5 x6)) with
            | true =>
              cases (isL (L5_164_0 x0 x1 x2 (Prod.snd (Prod.snd (val (v15 x3 x4 x5 x6)))) x2 x3 x4 x5 x6 (Prod.fst (val (v15 x3 x4 x5 x6))) (Prod.fst (Prod.snd (val (v15 x3 x4 x5 x6)))))) with
              | true =>
                exact ih _ _ _ _ _ _ _ r
              | false =>
                cases (ok (getR (L5_164_0 x0 x1 x2 (Prod.snd (Prod.snd (val (v15 x3 x4 x5 x6)))) x2 x3 x4 x5 x6 (Prod.fst (val (v15 x3 x4 x5 x6))) (Prod.fst (Prod.snd (val (v15 x3 x4 x5 x6))))))) with
                | true =>
                  exact ih _ _ _ _ _ _ _ r
                | false =>
                  intro h; cases h
            | false =>
              intro h; cases h
          | false =>
            cases (x2 == (3 : Int)) with
            | true =>
              cases (ok (v17 x3 x4 x5 x6)) with
              | true =>
                cases (isL (L5_164_0 x0 x1 x2 (Prod.snd (Prod.snd (val (v17 x3 x4 x5 x6)))) x2 x3 x4 x5 x6 (Prod.fst (val (v17 x3 x4 x5 x6))) (Prod.fst (Prod.snd (val (v17 x3 x4 x5 x6)))))) with
                | true =>
                  exact ih _ _ _ _ _ _ _ r
                | false =>
                  cases (ok (getR (L5_164_0 x0 x1 x2 (Prod.snd (Prod.snd (val (v17 x3 x4 x5 x6)))) x2 x3 x4 x5 x6 (Prod.fst (val (v17 x3 x4 x5 x6))) (Prod.fst (Prod.snd (val (v17 x3 x4 x5 x6))))))) with
                  | true =>
                    exact ih _ _ _ _ _ _ _ r
                  | false =>
                    intro h; cases h
              | false =>
                intro h; cases h
            | false =>
              cases (ok (v19 x3 x4 x5 x6)) with
              | true =>
                cases (isL (L5_164_0 x0 x1 x2 (Prod.snd (Prod.snd (val (v19 x3 x4 x5 x6)))) x2 x3 x4 x5 x6 (Prod.fst (val (v19 x3 x4 x5 x6))) (Prod.fst (Prod.snd (val (v19 x3 x4 x5 x6)))))) with
                | true =>
                  exact ih _ _ _ _ _ _ _ r
                | false =>
                  cases (ok (getR (L5_164_0 x0 x1 x2 (Prod.snd (Prod.snd (val (v19 x3 x4 x5 x6)))) x2 x3 x4 x5 x6 (Prod.fst (val (v19 x3 x4 x5 x6))) (Prod.fst (Prod.snd (val (v19 x3 x4 x5 x6))))))) with
                  | true =>
                    exact ih _ _ _ _ _ _ _ r
                  | false =>
                    intro h; cases h
              | false =>
                intro h; cases h
    | false =>
      intro h; cases h; rfl
def sL5_0_0 : TellS := fun S => match S with
  | { sl := [(2, .l 2 0), (3, .l 3 0), (5, .v (.sc (.bool (x0)))), (6, .v (.sc (.bool (x1)))), (35, .v (.sc (.int .i64 (x2))))], lo := [(2, [.int .i64 (x3), .int .i64 (x4)]), (3, [.int .i64 (x5), .int .i64 (x6)])], h := [], n0 := 0 } => some [(ok (L5_0_0 FU x0 x1 x2 x3 x4 x5 x6), (.exit 0), { sl := [(2, .l 2 0), (3, .l 3 0), (5, .v (.sc (.bool ((val (L5_0_0 FU x0 x1 x2 x3 x4 x5 x6))))))], lo := [], h := [], n0 := 0 })]
  | _ => none
theorem wL5_0_0 : NewTell Try.prog dOk base o28 t28 ((5, 0), sL5_0_0) := by
  refine ⟨.loop (codeAt Try.prog (tn0 5) 5 0), 0, by kernel_rfl, ?_⟩
  intro S alts e S' h1 h2
  have h1 : sL5_0_0 S = some alts := h1
  unfold sL5_0_0 at h1
  split at h1
  · cases h1
    obtain ⟨hc0, rfl, rfl⟩ := pick_one h2
    exact ⟨FU + 40, (evPiece_loop rfl).trans (lL5_0_0 FU 40 FU _ _ _ _ _ _ _ _ (ok_val hc0))⟩
  · cases h1
/-- queuelablaw06.IntervalNarrower: the piece 116 -/
def L6_116_0 (x0 : Bool) (x1 : Int) (x2 : Int) (x3 : Int) (x4 : Int) (x5 : Int) (x6 : Int) (x7 : Int) (x8 : Int) (x9 : Int) (x10 : Int) (x11 : Int) (x12 : Int) : Option Bool := (cond (ok (v17 x5 x6 x7 x8)) (cond (ok (v17 x1 x2 x3 x4)) (cond (x0) (cond (ok (v33 (Prod.fst (val (v17 x5 x6 x7 x8))) (Prod.fst (Prod.snd (val (v17 x5 x6 x7 x8)))) (Prod.snd (Prod.snd (val (v17 x5 x6 x7 x8)))) (Prod.fst (val (v17 x1 x2 x3 x4))) (Prod.fst (Prod.snd (val (v17 x1 x2 x3 x4)))) (Prod.snd (Prod.snd (val (v17 x1 x2 x3 x4)))))) (cond (ok (L6_140_0 (val (v33 (Prod.fst (val (v17 x5 x6 x7 x8))) (Prod.fst (Prod.snd (val (v17 x5 x6 x7 x8)))) (Prod.snd (Prod.snd (val (v17 x5 x6 x7 x8)))) (Prod.fst (val (v17 x1 x2 x3 x4))) (Prod.fst (Prod.snd (val (v17 x1 x2 x3 x4)))) (Prod.snd (Prod.snd (val (v17 x1 x2 x3 x4)))))) x1 x2 x3 x4 x5 x6 x7 x8 (Prod.fst (val (v17 x5 x6 x7 x8))) (Prod.fst (Prod.snd (val (v17 x5 x6 x7 x8)))) (Prod.fst (val (v17 x1 x2 x3 x4))) (Prod.fst (Prod.snd (val (v17 x1 x2 x3 x4)))))) (some (val (L6_140_0 (val (v33 (Prod.fst (val (v17 x5 x6 x7 x8))) (Prod.fst (Prod.snd (val (v17 x5 x6 x7 x8)))) (Prod.snd (Prod.snd (val (v17 x5 x6 x7 x8)))) (Prod.fst (val (v17 x1 x2 x3 x4))) (Prod.fst (Prod.snd (val (v17 x1 x2 x3 x4)))) (Prod.snd (Prod.snd (val (v17 x1 x2 x3 x4)))))) x1 x2 x3 x4 x5 x6 x7 x8 (Prod.fst (val (v17 x5 x6 x7 x8))) (Prod.fst (Prod.snd (val (v17 x5 x6 x7 x8)))) (Prod.fst (val (v17 x1 x2 x3 x4))) (Prod.fst (Prod.snd (val (v17 x1 x2 x3 x4))))))) none) none) (cond (ok (L6_140_0 false x1 x2 x3 x4 x5 x6 x7 x8 (Prod.fst (val (v17 x5 x6 x7 x8))) (Prod.fst (Prod.snd (val (v17 x5 x6 x7 x8)))) (Prod.fst (val (v17 x1 x2 x3 x4))) (Prod.fst (Prod.snd (val (v17 x1 x2 x3 x4)))))) (some (val (L6_140_0 false x1 x2 x3 x4 x5 x6 x7 x8 (Prod.fst (val (v17 x5 x6 x7 x8))) (Prod.fst (Prod.snd (val (v17 x5 x6 x7 x8)))) (Prod.fst (val (v17 x1 x2 x3 x4))) (Prod.fst (Prod.snd (val (v17 x1 x2 x3 x4))))))) none)) none) none)
def xL6_116_0 (x0 : Bool) (x1 : Int) (x2 : Int) (x3 : Int) (x4 : Int) (x5 : Int) (x6 : Int) (x7 : Int) (x8 : Int) (x9 : Int) (x10 : Int) (x11 : Int) (x12 : Int) : Bool → Ex × CS := fun r => (.ret, { sl := [(6, .l 6 0), (7, .l 7 0), (12, .v (.sc (.bool (r)))), (14, .l 14 0), (15, .l 15 0), (16, .l 16 0), (18, .l 18 0)], lo := [], h := [], n0 := 0 })
theorem bL6_116_0 (k : Nat) (cX : Ex → CS → Option (Ex × CS)) (x0 : Bool) (x1 : Int) (x2 : Int) (x3 : Int) (x4 : Int) (x5 : Int) (x6 : Int) (x7 : Int) (x8 : Int) (x9 : Int) (x10 : Int) (x11 : Int) (x12 : Int) : pieceBody Try.prog (mkTn base o28 t28 6) (TM.evF Try.prog (mkTn base o28 t28) dOk (k + 40)) dOk (k + 40) (codeAt Try.prog (tn0 6) 6 116) 0 116 { sl := [(6, .l 6 0), (7, .l 7 0), (13, .v (.sc (.bool (x0)))), (14, .l 14 0), (15, .l 15 0), (16, .l 16 0), (18, .l 18 0)], lo := [(6, [.int .i64 (x1), .int .i64 (x2)]), (7, [.int .i64 (x3), .int .i64 (x4)]), (14, [.int .i64 (x5), .int .i64 (x6)]), (15, [.int .i64 (x7), .int .i64 (x8)]), (16, [.int .i64 (x9), .int .i64 (x10)]), (18, [.int .i64 (x11), .int .i64 (x12)])], h := [], n0 := 0 } cX = (cond (ok (v17 x5 x6 x7 x8)) (cond (ok (v17 x1 x2 x3 x4)) (cond (x0) (cond (ok (v33 (Prod.fst (val (v17 x5 x6 x7 x8))) (Prod.fst (Prod.snd (val (v17 x5 x6 x7 x8)))) (Prod.snd (Prod.snd (val (v17 x5 x6 x7 x8)))) (Prod.fst (val (v17 x1 x2 x3 x4))) (Prod.fst (Prod.snd (val (v17 x1 x2 x3 x4)))) (Prod.snd (Prod.snd (val (v17 x1 x2 x3 x4)))))) (cond (ok (L6_140_0 (val (v33 (Prod.fst (val (v17 x5 x6 x7 x8))) (Prod.fst (Prod.snd (val (v17 x5 x6 x7 x8)))) (Prod.snd (Prod.snd (val (v17 x5 x6 x7 x8)))) (Prod.fst (val (v17 x1 x2 x3 x4))) (Prod.fst (Prod.snd (val (v17 x1 x2 x3 x4)))) (Prod.snd (Prod.snd (val (v17 x1 x2 x3 x4)))))) x1 x2 x3 x4 x5 x6 x7 x8 (Prod.fst (val (v17 x5 x6 x7 x8))) (Prod.fst (Prod.snd (val (v17 x5 x6 x7 x8)))) (Prod.fst (val (v17 x1 x2 x3 x4))) (Prod.fst (Prod.snd (val (v17 x1 x2 x3 x4)))))) (cX .ret { sl := [(6, .l 6 0), (7, .l 7 0), (12, .v (.sc (.bool (val (L6_140_0 (val (v33 (Prod.fst (val (v17 x5 x6 x7 x8))) (Prod.fst (Prod.snd (val (v17 x5 x6 x7 x8)))) (Prod.snd (Prod.snd (val (v17 x5 x6 x7 x8)))) (Prod.fst (val (v17 x1 x2 x3 x4))) (Prod.fst (Prod.snd (val (v17 x1 x2 x3 x4)))) (Prod.snd (Prod.snd (val (v17 x1 x2 x3 x4)))))) x1 x2 x3 x4 x5 x6 x7 x8 (Prod.fst (val (v17 x5 x6 x7 x8))) (Prod.fst (Prod.snd (val (v17 x5 x6 x7 x8)))) (Prod.fst (val (v17 x1 x2 x3 x4))) (Prod.fst (Prod.snd (val (v17 x1 x2 x3 x4))))))))), (14, .l 14 0), (15, .l 15 0), (16, .l 16 0), (18, .l 18 0)], lo := [], h := [], n0 := 0 }) none) none) (cond (ok (L6_140_0 false x1 x2 x3 x4 x5 x6 x7 x8 (Prod.fst (val (v17 x5 x6 x7 x8))) (Prod.fst (Prod.snd (val (v17 x5 x6 x7 x8)))) (Prod.fst (val (v17 x1 x2 x3 x4))) (Prod.fst (Prod.snd (val (v17 x1 x2 x3 x4)))))) (cX .ret { sl := [(6, .l 6 0), (7, .l 7 0), (12, .v (.sc (.bool (val (L6_140_0 false x1 x2 x3 x4 x5 x6 x7 x8 (Prod.fst (val (v17 x5 x6 x7 x8))) (Prod.fst (Prod.snd (val (v17 x5 x6 x7 x8)))) (Prod.fst (val (v17 x1 x2 x3 x4))) (Prod.fst (Prod.snd (val (v17 x1 x2 x3 x4))))))))), (14, .l 14 0), (15, .l 15 0), (16, .l 16 0), (18, .l 18 0)], lo := [], h := [], n0 := 0 }) none)) none) none) := by kernel_rfl
theorem lL6_116_0 (k : Nat) (x0 : Bool) (x1 : Int) (x2 : Int) (x3 : Int) (x4 : Int) (x5 : Int) (x6 : Int) (x7 : Int) (x8 : Int) (x9 : Int) (x10 : Int) (x11 : Int) (x12 : Int) (r : Bool) : L6_116_0 x0 x1 x2 x3 x4 x5 x6 x7 x8 x9 x10 x11 x12 = some r → pieceBody Try.prog (mkTn base o28 t28 6) (TM.evF Try.prog (mkTn base o28 t28) dOk (k + 40)) dOk (k + 40) (codeAt Try.prog (tn0 6) 6 116) 0 116 { sl := [(6, .l 6 0), (7, .l 7 0), (13, .v (.sc (.bool (x0)))), (14, .l 14 0), (15, .l 15 0), (16, .l 16 0), (18, .l 18 0)], lo := [(6, [.int .i64 (x1), .int .i64 (x2)]), (7, [.int .i64 (x3), .int .i64 (x4)]), (14, [.int .i64 (x5), .int .i64 (x6)]), (15, [.int .i64 (x7), .int .i64 (x8)]), (16, [.int .i64 (x9), .int .i64 (x10)]), (18, [.int .i64 (x11), .int .i64 (x12)])], h := [], n0 := 0 } (fun e s => some (e, s)) = some (xL6_116_0 x0 x1 x2 x3 x4 x5 x6 x7 x8 x9 x10 x11 x12 r) := by
  rw [bL6_116_0]
  unfold L6_116_0
  cases (ok (v17 x5 x6 x7 x8)) with
  | true =>
    cases (ok (v17 x1 x2 x3 x4)) with
    | true =>
      cases x0 with
      | true =>
        cases (ok (v33 (Prod.fst (val (v17 x5 x6 x7 x8))) (Prod.fst (Prod.snd (val (v17 x5 x6 x7 x8)))) (Prod.snd (Prod.snd (val (v17 x5 x6 x7 x8)))) (Prod.fst (val (v17 x1 x2 x3 x4))) (Prod.fst (Prod.snd (val (v17 x1 x2 x3 x4)))) (Prod.snd (Prod.snd (val (v17 x1 x2 x3 x4)))))) with
        | true =>
          cases (ok (L6_140_0 (val (v33 (Prod.fst (val (v17 x5 x6 x7 x8))) (Prod.fst (Prod.snd (val (v17 x5 x6 x7 x8)))) (Prod.snd (Prod.snd (val (v17 x5 x6 x7 x8)))) (Prod.fst (val (v17 x1 x2 x3 x4))) (Prod.fst (Prod.snd (val (v17 x1 x2 x3 x4)))) (Prod.snd (Prod.snd (val (v17 x1 x2 x3 x4)))))) x1 x2 x3 x4 x5 x6 x7 x8 (Prod.fst (val (v17 x5 x6 x7 x8))) (Prod.fst (Prod.snd (val (v17 x5 x6 x7 x8)))) (Prod.fst (val (v17 x1 x2 x3 x4))) (Prod.fst (Prod.snd (val (v17 x1 x2 x3 x4)))))) with
          | true =>
            intro h; cases h; rfl
          | false =>
            intro h; cases h
        | false =>
          intro h; cases h
      | false =>
        cases (ok (L6_140_0 false x1 x2 x3 x4 x5 x6 x7 x8 (Prod.fst (val (v17 x5 x6 x7 x8))) (Prod.fst (Prod.snd (val (v17 x5 x6 x7 x8)))) (Prod.fst (val (v17 x1 x2 x3 x4))) (Prod.fst (Prod.snd (val (v17 x1 x2 x3 x4)))))) with
        | true =>
          intro h; cases h; rfl
        | false =>
          intro h; cases h
    | false =>
      intro h; cases h
  | false =>
    intro h; cases h
def sL6_116_0 : TellS := fun S => match S with
  | { sl := [(6, .l 6 0), (7, .l 7 0), (13, .v (.sc (.bool (x0)))), (14, .l 14 0), (15, .l 15 0), (16, .l 16 0), (18, .l 18 0)], lo := [(6, [.int .i64 (x1), .int .i64 (x2)]), (7, [.int .i64 (x3), .int .i64 (x4)]), (14, [.int .i64 (x5), .int .i64 (x6)]), (15, [.int .i64 (x7), .int .i64 (x8)]), (16, [.int .i64 (x9), .int .i64 (x10)]), (18, [.int .i64 (x11), .int .i64 (x12)])], h := [], n0 := 0 } => some [(ok (L6_116_0 x0 x1 x2 x3 x4 x5 x6 x7 x8 x9 x10 x11 x12), .ret, { sl := [(6, .l 6 0), (7, .l 7 0), (12, .v (.sc (.bool ((val (L6_116_0 x0 x1 x2 x3 x4 x5 x6 x7 x8 x9 x10 x11 x12)))))), (14, .l 14 0), (15, .l 15 0), (16, .l 16 0), (18, .l 18 0)], lo := [], h := [], n0 := 0 })]
  | _ => none
theorem wL6_116_0 : NewTell Try.prog dOk base o28 t28 ((6, 116), sL6_116_0) := by
  refine ⟨(codeAt Try.prog (tn0 6) 6 116), 0, by kernel_rfl, ?_⟩
  intro S alts e S' h1 h2
  have h1 : sL6_116_0 S = some alts := h1
  unfold sL6_116_0 at h1
  split at h1
  · cases h1
    obtain ⟨hc0, rfl, rfl⟩ := pick_one h2
    exact ⟨0 + 40, (evPiece_code rfl).trans (lL6_116_0 0 _ _ _ _ _ _ _ _ _ _ _ _ _ _ (ok_val hc0))⟩
  · cases h1
/-- queuelablaw06.IntervalContains: the piece 124 -/
def L4_124_0 (x0 : Bool) (x1 : Int) (x2 : Int) (x3 : Int) (x4 : Int) (x5 : Int) (x6 : Int) (x7 : Int) (x8 : Int) : Option (Bool ⊕ Bool) := (cond (ok (v25 x3 x4 x5 x6)) (cond (x0) (cond (ok (v30 (Prod.fst (val (v25 x3 x4 x5 x6))) (Prod.fst (Prod.snd (val (v25 x3 x4 x5 x6)))) (Prod.snd (Prod.snd (val (v25 x3 x4 x5 x6)))) x1)) (cond (val (v30 (Prod.fst (val (v25 x3 x4 x5 x6))) (Prod.fst (Prod.snd (val (v25 x3 x4 x5 x6)))) (Prod.snd (Prod.snd (val (v25 x3 x4 x5 x6)))) x1)) (cond (ok (v30 (Prod.fst (val (v25 x3 x4 x5 x6))) (Prod.fst (Prod.snd (val (v25 x3 x4 x5 x6)))) (Prod.snd (Prod.snd (val (v25 x3 x4 x5 x6)))) x2)) (cond (isL (L4_140_0 (val (v30 (Prod.fst (val (v25 x3 x4 x5 x6))) (Prod.fst (Prod.snd (val (v25 x3 x4 x5 x6)))) (Prod.snd (Prod.snd (val (v25 x3 x4 x5 x6)))) x2)) x1 x2 x3 x4 x5 x6 (Prod.fst (val (v25 x3 x4 x5 x6))) (Prod.fst (Prod.snd (val (v25 x3 x4 x5 x6)))))) (some (.inl (getL (L4_140_0 (val (v30 (Prod.fst (val (v25 x3 x4 x5 x6))) (Prod.fst (Prod.snd (val (v25 x3 x4 x5 x6)))) (Prod.snd (Prod.snd (val (v25 x3 x4 x5 x6)))) x2)) x1 x2 x3 x4 x5 x6 (Prod.fst (val (v25 x3 x4 x5 x6))) (Prod.fst (Prod.snd (val (v25 x3 x4 x5 x6)))))))) (cond (ok (getR (L4_140_0 (val (v30 (Prod.fst (val (v25 x3 x4 x5 x6))) (Prod.fst (Prod.snd (val (v25 x3 x4 x5 x6)))) (Prod.snd (Prod.snd (val (v25 x3 x4 x5 x6)))) x2)) x1 x2 x3 x4 x5 x6 (Prod.fst (val (v25 x3 x4 x5 x6))) (Prod.fst (Prod.snd (val (v25 x3 x4 x5 x6))))))) (some (.inr (val (getR (L4_140_0 (val (v30 (Prod.fst (val (v25 x3 x4 x5 x6))) (Prod.fst (Prod.snd (val (v25 x3 x4 x5 x6)))) (Prod.snd (Prod.snd (val (v25 x3 x4 x5 x6)))) x2)) x1 x2 x3 x4 x5 x6 (Prod.fst (val (v25 x3 x4 x5 x6))) (Prod.fst (Prod.snd (val (v25 x3 x4 x5 x6))))))))) none)) none) (cond (isL (L4_140_0 false x1 x2 x3 x4 x5 x6 (Prod.fst (val (v25 x3 x4 x5 x6))) (Prod.fst (Prod.snd (val (v25 x3 x4 x5 x6)))))) (some (.inl (getL (L4_140_0 false x1 x2 x3 x4 x5 x6 (Prod.fst (val (v25 x3 x4 x5 x6))) (Prod.fst (Prod.snd (val (v25 x3 x4 x5 x6)))))))) (cond (ok (getR (L4_140_0 false x1 x2 x3 x4 x5 x6 (Prod.fst (val (v25 x3 x4 x5 x6))) (Prod.fst (Prod.snd (val (v25 x3 x4 x5 x6))))))) (some (.inr (val (getR (L4_140_0 false x1 x2 x3 x4 x5 x6 (Prod.fst (val (v25 x3 x4 x5 x6))) (Prod.fst (Prod.snd (val (v25 x3 x4 x5 x6))))))))) none))) none) (cond (isL (L4_140_0 false x1 x2 x3 x4 x5 x6 (Prod.fst (val (v25 x3 x4 x5 x6))) (Prod.fst (Prod.snd (val (v25 x3 x4 x5 x6)))))) (some (.inl (getL (L4_140_0 false x1 x2 x3 x4 x5 x6 (Prod.fst (val (v25 x3 x4 x5 x6))) (Prod.fst (Prod.snd (val (v25 x3 x4 x5 x6)))))))) (cond (ok (getR (L4_140_0 false x1 x2 x3 x4 x5 x6 (Prod.fst (val (v25 x3 x4 x5 x6))) (Prod.fst (Prod.snd (val (v25 x3 x4 x5 x6))))))) (some (.inr (val (getR (L4_140_0 false x1 x2 x3 x4 x5 x6 (Prod.fst (val (v25 x3 x4 x5 x6))) (Prod.fst (Prod.snd (val (v25 x3 x4 x5 x6))))))))) none))) none)
def xL4_124_0 (x0 : Bool) (x1 : Int) (x2 : Int) (x3 : Int) (x4 : Int) (x5 : Int) (x6 : Int) (x7 : Int) (x8 : Int) : (Bool ⊕ Bool) → Ex × CS := fun r => match r with | .inl a0 => (.ret, { sl := [(4, .l 4 0), (5, .l 5 0), (8, .v (.sc (.bool (a0)))), (12, .l 12 0), (136, .l 5 0), (140, .l 5 1)], lo := [], h := [], n0 := 0 }) | .inr b0 => (.ret, { sl := [(4, .l 4 0), (5, .l 5 0), (8, .v (.sc (.bool (b0)))), (12, .l 12 0), (136, .l 5 0)], lo := [], h := [], n0 := 0 })
theorem bL4_124_0 (k : Nat) (cX : Ex → CS → Option (Ex × CS)) (x0 : Bool) (x1 : Int) (x2 : Int) (x3 : Int) (x4 : Int) (x5 : Int) (x6 : Int) (x7 : Int) (x8 : Int) : pieceBody Try.prog (mkTn base o28 t28 4) (TM.evF Try.prog (mkTn base o28 t28) dOk (k + 40)) dOk (k + 40) (codeAt Try.prog (tn0 4) 4 124) 0 124 { sl := [(4, .l 4 0), (5, .l 5 0), (9, .v (.sc (.bool (x0)))), (10, .v (.sc (.int .i64 (x1)))), (11, .v (.sc (.int .i64 (x2)))), (12, .l 12 0)], lo := [(4, [.int .i64 (x3), .int .i64 (x4)]), (5, [.int .i64 (x5), .int .i64 (x6)]), (12, [.int .i64 (x7), .int .i64 (x8)])], h := [], n0 := 0 } cX = (cond (ok (v25 x3 x4 x5 x6)) (cond (x0) (cond (ok (v30 (Prod.fst (val (v25 x3 x4 x5 x6))) (Prod.fst (Prod.snd (val (v25 x3 x4 x5 x6)))) (Prod.snd (Prod.snd (val (v25 x3 x4 x5 x6)))) x1)) (cond (val (v30 (Prod.fst (val (v25 x3 x4 x5 x6))) (Prod.fst (Prod.snd (val (v25 x3 x4 x5 x6)))) (Prod.snd (Prod.snd (val (v25 x3 x4 x5 x6)))) x1)) (cond (ok (v30 (Prod.fst (val (v25 x3 x4 x5 x6))) (Prod.fst (Prod.snd (val (v25 x3 x4 x5 x6)))) (Prod.snd (Prod.snd (val (v25 x3 x4 x5 x6)))) x2)) (cond (isL (L4_140_0 (val (v30 (Prod.fst (val (v25 x3 x4 x5 x6))) (Prod.fst (Prod.snd (val (v25 x3 x4 x5 x6)))) (Prod.snd (Prod.snd (val (v25 x3 x4 x5 x6)))) x2)) x1 x2 x3 x4 x5 x6 (Prod.fst (val (v25 x3 x4 x5 x6))) (Prod.fst (Prod.snd (val (v25 x3 x4 x5 x6)))))) (cX .ret { sl := [(4, .l 4 0), (5, .l 5 0), (8, .v (.sc (.bool (getL (L4_140_0 (val (v30 (Prod.fst (val (v25 x3 x4 x5 x6))) (Prod.fst (Prod.snd (val (v25 x3 x4 x5 x6)))) (Prod.snd (Prod.snd (val (v25 x3 x4 x5 x6)))) x2)) x1 x2 x3 x4 x5 x6 (Prod.fst (val (v25 x3 x4 x5 x6))) (Prod.fst (Prod.snd (val (v25 x3 x4 x5 x6))))))))), (12, .l 12 0), (136, .l 5 0), (140, .l 5 1)], lo := [], h := [], n0 := 0 }) (cond (ok (getR (L4_140_0 (val (v30 (Prod.fst (val (v25 x3 x4 x5 x6))) (Prod.fst (Prod.snd (val (v25 x3 x4 x5 x6)))) (Prod.snd (Prod.snd (val (v25 x3 x4 x5 x6)))) x2)) x1 x2 x3 x4 x5 x6 (Prod.fst (val (v25 x3 x4 x5 x6))) (Prod.fst (Prod.snd (val (v25 x3 x4 x5 x6))))))) (cX .ret { sl := [(4, .l 4 0), (5, .l 5 0), (8, .v (.sc (.bool (val (getR (L4_140_0 (val (v30 (Prod.fst (val (v25 x3 x4 x5 x6))) (Prod.fst (Prod.snd (val (v25 x3 x4 x5 x6)))) (Prod.snd (Prod.snd (val (v25 x3 x4 x5 x6)))) x2)) x1 x2 x3 x4 x5 x6 (Prod.fst (val (v25 x3 x4 x5 x6))) (Prod.fst (Prod.snd (val (v25 x3 x4 x5 x6)))))))))), (12, .l 12 0), (136, .l 5 0)], lo := [], h := [], n0 := 0 }) none)) none) (cond (isL (L4_140_0 false x1 x2 x3 x4 x5 x6 (Prod.fst (val (v25 x3 x4 x5 x6))) (Prod.fst (Prod.snd (val (v25 x3 x4 x5 x6)))))) (cX .ret { sl := [(4, .l 4 0), (5, .l 5 0), (8, .v (.sc (.bool (getL (L4_140_0 false x1 x2 x3 x4 x5 x6 (Prod.fst (val (v25 x3 x4 x5 x6))) (Prod.fst (Prod.snd (val (v25 x3 x4 x5 x6))))))))), (12, .l 12 0), (136, .l 5 0), (140, .l 5 1)], lo := [], h := [], n0 := 0 }) (cond (ok (getR (L4_140_0 false x1 x2 x3 x4 x5 x6 (Prod.fst (val (v25 x3 x4 x5 x6))) (Prod.fst (Prod.snd (val (v25 x3 x4 x5 x6))))))) (cX .ret { sl := [(4, .l 4 0), (5, .l 5 0), (8, .v (.sc (.bool (val (getR (L4_140_0 false x1 x2 x3 x4 x5 x6 (Prod.fst (val (v25 x3 x4 x5 x6))) (Prod.fst (Prod.snd (val (v25 x3 x4 x5 x6)))))))))), (12, .l 12 0), (136, .l 5 0)], lo := [], h := [], n0 := 0 }) none))) none) (cond (isL (L4_140_0 false x1 x2 x3 x4 x5 x6 (Prod.fst (val (v25 x3 x4 x5 x6))) (Prod.fst (Prod.snd (val (v25 x3 x4 x5 x6)))))) (cX .ret { sl := [(4, .l 4 0), (5, .l 5 0), (8, .v (.sc (.bool (getL (L4_140_0 false x1 x2 x3 x4 x5 x6 (Prod.fst (val (v25 x3 x4 x5 x6))) (Prod.fst (Prod.snd (val (v25 x3 x4 x5 x6))))))))), (12, .l 12 0), (136, .l 5 0), (140, .l 5 1)], lo := [], h := [], n0 := 0 }) (cond (ok (getR (L4_140_0 false x1 x2 x3 x4 x5 x6 (Prod.fst (val (v25 x3 x4 x5 x6))) (Prod.fst (Prod.snd (val (v25 x3 x4 x5 x6))))))) (cX .ret { sl := [(4, .l 4 0), (5, .l 5 0), (8, .v (.sc (.bool (val (getR (L4_140_0 false x1 x2 x3 x4 x5 x6 (Prod.fst (val (v25 x3 x4 x5 x6))) (Prod.fst (Prod.snd (val (v25 x3 x4 x5 x6)))))))))), (12, .l 12 0), (136, .l 5 0)], lo := [], h := [], n0 := 0 }) none))) none) := by kernel_rfl
theorem lL4_124_0 (k : Nat) (x0 : Bool) (x1 : Int) (x2 : Int) (x3 : Int) (x4 : Int) (x5 : Int) (x6 : Int) (x7 : Int) (x8 : Int) (r : (Bool ⊕ Bool)) : L4_124_0 x0 x1 x2 x3 x4 x5 x6 x7 x8 = some r → pieceBody Try.prog (mkTn base o28 t28 4) (TM.evF Try.prog (mkTn base o28 t28) dOk (k + 40)) dOk (k + 40) (codeAt Try.prog (tn0 4) 4 124) 0 124 { sl := [(4, .l 4 0), (5, .l 5 0), (9, .v (.sc (.bool (x0)))), (10, .v (.sc (.int .i64 (x1)))), (11, .v (.sc (.int .i64 (x2)))), (12, .l 12 0)], lo := [(4, [.int .i64 (x3), .int .i64 (x4)]), (5, [.int .i64 (x5), .int .i64 (x6)]), (12, [.int .i64 (x7), .int .i64 (x8)])], h := [], n0 := 0 } (fun e s => some (e, s)) = some (xL4_124_0 x0 x1 x2 x3 x4 x5 x6 x7 x8 r) := by
  rw [bL4_124_0]
  unfold L4_124_0
  cases (ok (v25 x3 x4 x5 x6)) with
  | true =>
    cases x0 with
    | true =>
      cases (ok (v30 (Prod.fst (val (v25 x3 x4 x5 x6))) (Prod.fst (Prod.snd (val (v25 x3 x4 x5 x6)))) (Prod.snd (Prod.snd (val (v25 x3 x4 x5 x6)))) x1)) with
      | true =>
        cases (val (v30 (Prod.fst (val (v25 x3 x4 x5 x6))) (Prod.fst (Prod.snd (val (v25 x3 x4 x5 x6)))) (Prod.snd (Prod.snd (val (v25 x3 x4 x5 x6)))) x1)) with
        | true =>
          cases (ok (v30 (Prod.fst (val (v25 x3 x4 x5 x6))) (Prod.fst (Prod.snd (val (v25 x3 x4 x5 x6)))) (Prod.snd (Prod.snd (val (v25 x3 x4 x5 x6)))) x2)) with
          | true =>
            cases (isL (L4_140_0 (val (v30 (Prod.fst (val (v25 x3 x4 x5 x6))) (Prod.fst (Prod.snd (val (v25 x3 x4 x5 x6)))) (Prod.snd (Prod.snd (val (v25 x3 x4 x5 x6)))) x2)) x1 x2 x3 x4 x5 x6 (Prod.fst (val (v25 x3 x4 x5 x6))) (Prod.fst (Prod.snd (val (v25 x3 x4 x5 x6)))))) with
            | true =>
              intro h; cases h; rfl
            | false =>
              cases (ok (getR (L4_140_0 (val (v30 (Prod.fst (val (v25 x3 x4 x5 x6))) (Prod.fst (Prod.snd (val (v25 x3 x4 x5 x6)))) (Prod.snd (Prod.snd (val (v25 x3 x4 x5 x6)))) x2)) x1 x2 x3 x4 x5 x6 (Prod.fst (val (v25 x3 x4 x5 x6))) (Prod.fst (Prod.snd (val (v25 x3 x4 x5 x6))))))) with
              | true =>
                intro h; cases h; rfl
              | false =>
                intro h; cases h
          | false =>
            intro h; cases h
        | false =>
          cases (isL (L4_140_0 false x1 x2 x3 x4 x5 x6 (Prod.fst (val (v25 x3 x4 x5 x6))) (Prod.fst (Prod.snd (val (v25 x3 x4 x5 x6)))))) with
          | true =>
            intro h; cases h; rfl
          | false =>
            cases (ok (getR (L4_140_0 false x1 x2 x3 x4 x5 x6 (Prod.fst (val (v25 x3 x4 x5 x6))) (Prod.fst (Prod.snd (val (v25 x3 x4 x5 x6))))))) with
            | true =>
              intro h; cases h; rfl
            | false =>
              intro h; cases h
      | false =>
        intro h; cases h
    | false =>
      cases (isL (L4_140_0 false x1 x2 x3 x4 x5 x6 (Prod.fst (val (v25 x3 x4 x5 x6))) (Prod.fst (Prod.snd (val (v25 x3 x4 x5 x6)))))) with
      | true =>
        intro h; cases h; rfl
      | false =>
        cases (ok (getR (L4_140_0 false x1 x2 x3 x4 x5 x6 (Prod.fst (val (v25 x3 x4 x5 x6))) (Prod.fst (Prod.snd (val (v25 x3 x4 x5 x6))))))) with
        | true =>
          intro h; cases h; rfl
        | false =>
          intro h; cases h
  | false =>
    intro h; cases h
def sL4_124_0 : TellS := fun S => match S with
  | { sl := [(4, .l 4 0), (5, .l 5 0), (9, .v (.sc (.bool (x0)))), (10, .v (.sc (.int .i64 (x1)))), (11, .v (.sc (.int .i64 (x2)))), (12, .l 12 0)], lo := [(4, [.int .i64 (x3), .int .i64 (x4)]), (5, [.int .i64 (x5), .int .i64 (x6)]), (12, [.int .i64 (x7), .int .i64 (x8)])], h := [], n0 := 0 } => some [(isL (L4_124_0 x0 x1 x2 x3 x4 x5 x6 x7 x8), .ret, { sl := [(4, .l 4 0), (5, .l 5 0), (8, .v (.sc (.bool ((getL (L4_124_0 x0 x1 x2 x3 x4 x5 x6 x7 x8)))))), (12, .l 12 0), (136, .l 5 0), (140, .l 5 1)], lo := [], h := [], n0 := 0 }), (ok (getR (L4_124_0 x0 x1 x2 x3 x4 x5 x6 x7 x8)), .ret, { sl := [(4, .l 4 0), (5, .l 5 0), (8, .v (.sc (.bool ((val (getR (L4_124_0 x0 x1 x2 x3 x4 x5 x6 x7 x8))))))), (12, .l 12 0), (136, .l 5 0)], lo := [], h := [], n0 := 0 })]
  | _ => none
theorem wL4_124_0 : NewTell Try.prog dOk base o28 t28 ((4, 124), sL4_124_0) := by
  refine ⟨(codeAt Try.prog (tn0 4) 4 124), 0, by kernel_rfl, ?_⟩
  intro S alts e S' h1 h2
  have h1 : sL4_124_0 S = some alts := h1
  unfold sL4_124_0 at h1
  split at h1
  · cases h1
    rcases pick_cons h2 with ⟨hc0, rfl, rfl⟩ | h2
    · exact ⟨0 + 40, (evPiece_code rfl).trans (lL4_124_0 0 _ _ _ _ _ _ _ _ _ _ (isL_val hc0))⟩
    obtain ⟨hc1, rfl, rfl⟩ := pick_one h2
    exact ⟨0 + 40, (evPiece_code rfl).trans (lL4_124_0 0 _ _ _ _ _ _ _ _ _ _ (getR_val (ok_val hc1)))⟩
  · cases h1
def o29 : OrcT := (3, sv3) :: o28
def t29 : TellT := ((5, 0), sL5_0_0) :: ((6, 116), sL6_116_0) :: ((4, 124), sL4_124_0) :: t28
abbrev tn29 : FuncId → TAn := mkTn base o29 t29
theorem ok29 : TnOk Try.prog tn29 (mkA base) dOk := by
  have h0 : TnOk Try.prog (mkTn base o28 t28) (mkA base) dOk := ok28
  have h1 := tn_orc h0 h0 (p := (3, sv3)) wv3
  have h2 := tn_tell h0 h1 (p := ((4, 124), sL4_124_0)) wL4_124_0
  have h3 := tn_tell h0 h2 (p := ((6, 116), sL6_116_0)) wL6_116_0
  have h4 := tn_tell h0 h3 (p := ((5, 0), sL5_0_0)) wL5_0_0
  exact h4
end Go.Proofs.Ytojbaamhnfinpaa
set_option maxRecDepth 1000000
set_option linter.unusedVariables false
set_option maxHeartbeats 4000000
namespace Go.Proofs.Ytojbaamhnfinpaa
open Go Go.AM Go.TM Go.Proofs
/-- queuelablaw06.IntervalLeast: the piece 36 -/
def L5_36_0 (x0 : Bool) (x1 : Int) (x2 : Int) (x3 : Int) (x4 : Int) : Option Bool := (cond (decide (x3 ≤ (0 : Int))) (cond (ok (L5_0_0 FU x0 (decide (x4 ≥ (0 : Int))) (0 : Int) x1 x2 x3 x4)) (some (val (L5_0_0 FU x0 (decide (x4 ≥ (0 : Int))) (0 : Int) x1 x2 x3 x4))) none) (cond (ok (L5_0_0 FU x0 false (0 : Int) x1 x2 x3 x4)) (some (val (L5_0_0 FU x0 false (0 : Int) x1 x2 x3 x4))) none))
def xL5_36_0 (x0 : Bool) (x1 : Int) (x2 : Int) (x3 : Int) (x4 : Int) : Bool → Ex × CS := fun r => (.ret, { sl := [(2, .l 2 0), (3, .l 3 0), (4, .v (.sc (.bool (r))))], lo := [], h := [], n0 := 0 })
theorem bL5_36_0 (k : Nat) (cX : Ex → CS → Option (Ex × CS)) (x0 : Bool) (x1 : Int) (x2 : Int) (x3 : Int) (x4 : Int) : pieceBody Try.prog (mkTn base o29 t29 5) (TM.evF Try.prog (mkTn base o29 t29) dOk (k + 40)) dOk (k + 40) (codeAt Try.prog (tn0 5) 5 36) 0 36 { sl := [(2, .l 2 0), (3, .l 3 0), (5, .v (.sc (.bool (x0))))], lo := [(2, [.int .i64 (x1), .int .i64 (x2)]), (3, [.int .i64 (x3), .int .i64 (x4)])], h := [], n0 := 0 } cX = (cond (decide (x3 ≤ (0 : Int))) (cond (ok (L5_0_0 FU x0 (decide (x4 ≥ (0 : Int))) (0 : Int) x1 x2 x3 x4)) (cX .ret { sl := [(2, .l 2 0), (3, .l 3 0), (4, .v (.sc (.bool (val (L5_0_0 FU x0 (decide (x4 ≥ (0 : Int))) (0 : Int) x1 x2 x3 x4)))))], lo := [], h := [], n0 := 0 }) none) (cond (ok (L5_0_0 FU x0 false (0 : Int) x1 x2 x3 x4)) (cX .ret { sl := [(2, .l 2 0), (3, .l 3 0), (4, .v (.sc (.bool (val (L5_0_0 FU x0 false (0 : Int) x1 x2 x3 x4)))))], lo := [], h := [], n0 := 0 }) none)) := by kernel_rfl
theorem lL5_36_0 (k : Nat) (x0 : Bool) (x1 : Int) (x2 : Int) (x3 : Int) (x4 : Int) (r : Bool) : L5_36_0 x0 x1 x2 x3 x4 = some r → pieceBody Try.prog (mkTn base o29 t29 5) (TM.evF Try.prog (mkTn base o29 t29) dOk (k + 40)) dOk (k + 40) (codeAt Try.prog (tn0 5) 5 36) 0 36 { sl := [(2, .l 2 0), (3, .l 3 0), (5, .v (.sc (.bool (x0))))], lo := [(2, [.int .i64 (x1), .int .i64 (x2)]), (3, [.int .i64 (x3), .int .i64 (x4)])], h := [], n0 := 0 } (fun e s => some (e, s)) = some (xL5_36_0 x0 x1 x2 x3 x4 r) := by
  rw [bL5_36_0]
  unfold L5_36_0
  cases (decide (x3 ≤ (0 : Int))) with
  | true =>
    cases (ok (L5_0_0 FU x0 (decide (x4 ≥ (0 : Int))) (0 : Int) x1 x2 x3 x4)) with
    | true =>
      intro h; cases h; rfl
    | false =>
      intro h; cases h
  | false =>
    cases (ok (L5_0_0 FU x0 false (0 : Int) x1 x2 x3 x4)) with
    | true =>
      intro h; cases h; rfl
    | false =>
      intro h; cases h
def sL5_36_0 : TellS := fun S => match S with
  | { sl := [(2, .l 2 0), (3, .l 3 0), (5, .v (.sc (.bool (x0))))], lo := [(2, [.int .i64 (x1), .int .i64 (x2)]), (3, [.int .i64 (x3), .int .i64 (x4)])], h := [], n0 := 0 } => some [(ok (L5_36_0 x0 x1 x2 x3 x4), .ret, { sl := [(2, .l 2 0), (3, .l 3 0), (4, .v (.sc (.bool ((val (L5_36_0 x0 x1 x2 x3 x4))))))], lo := [], h := [], n0 := 0 })]
  | _ => none
theorem wL5_36_0 : NewTell Try.prog dOk base o29 t29 ((5, 36), sL5_36_0) := by
  refine ⟨(codeAt Try.prog (tn0 5) 5 36), 0, by kernel_rfl, ?_⟩
  intro S alts e S' h1 h2
  have h1 : sL5_36_0 S = some alts := h1
  unfold sL5_36_0 at h1
  split at h1
  · cases h1
    obtain ⟨hc0, rfl, rfl⟩ := pick_one h2
    exact ⟨0 + 40, (evPiece_code rfl).trans (lL5_36_0 0 _ _ _ _ _ _ (ok_val hc0))⟩
  · cases h1
/-- queuelablaw06.IntervalNarrower: the piece 92 -/
def L6_92_0 (x0 : Bool) (x1 : Int) (x2 : Int) (x3 : Int) (x4 : Int) (x5 : Int) (x6 : Int) (x7 : Int) (x8 : Int) (x9 : Int) (x10 : Int) (x11 : Int) (x12 : Int) : Option Bool := (cond (ok (v15 x5 x6 x7 x8)) (cond (ok (v15 x1 x2 x3 x4)) (cond (x0) (cond (ok (v33 (Prod.fst (val (v15 x5 x6 x7 x8))) (Prod.fst (Prod.snd (val (v15 x5 x6 x7 x8)))) (Prod.snd (Prod.snd (val (v15 x5 x6 x7 x8)))) (Prod.fst (val (v15 x1 x2 x3 x4))) (Prod.fst (Prod.snd (val (v15 x1 x2 x3 x4)))) (Prod.snd (Prod.snd (val (v15 x1 x2 x3 x4)))))) (cond (ok (L6_116_0 (val (v33 (Prod.fst (val (v15 x5 x6 x7 x8))) (Prod.fst (Prod.snd (val (v15 x5 x6 x7 x8)))) (Prod.snd (Prod.snd (val (v15 x5 x6 x7 x8)))) (Prod.fst (val (v15 x1 x2 x3 x4))) (Prod.fst (Prod.snd (val (v15 x1 x2 x3 x4)))) (Prod.snd (Prod.snd (val (v15 x1 x2 x3 x4)))))) x1 x2 x3 x4 x5 x6 x7 x8 (Prod.fst (val (v15 x5 x6 x7 x8))) (Prod.fst (Prod.snd (val (v15 x5 x6 x7 x8)))) (Prod.fst (val (v15 x1 x2 x3 x4))) (Prod.fst (Prod.snd (val (v15 x1 x2 x3 x4)))))) (some (val (L6_116_0 (val (v33 (Prod.fst (val (v15 x5 x6 x7 x8))) (Prod.fst (Prod.snd (val (v15 x5 x6 x7 x8)))) (Prod.snd (Prod.snd (val (v15 x5 x6 x7 x8)))) (Prod.fst (val (v15 x1 x2 x3 x4))) (Prod.fst (Prod.snd (val (v15 x1 x2 x3 x4)))) (Prod.snd (Prod.snd (val (v15 x1 x2 x3 x4)))))) x1 x2 x3 x4 x5 x6 x7 x8 (Prod.fst (val (v15 x5 x6 x7 x8))) (Prod.fst (Prod.snd (val (v15 x5 x6 x7 x8)))) (Prod.fst (val (v15 x1 x2 x3 x4))) (Prod.fst (Prod.snd (val (v15 x1 x2 x3 x4))))))) none) none) (cond (ok (L6_116_0 false x1 x2 x3 x4 x5 x6 x7 x8 (Prod.fst (val (v15 x5 x6 x7 x8))) (Prod.fst (Prod.snd (val (v15 x5 x6 x7 x8)))) (Prod.fst (val (v15 x1 x2 x3 x4))) (Prod.fst (Prod.snd (val (v15 x1 x2 x3 x4)))))) (some (val (L6_116_0 false x1 x2 x3 x4 x5 x6 x7 x8 (Prod.fst (val (v15 x5 x6 x7 x8))) (Prod.fst (Prod.snd (val (v15 x5 x6 x7 x8)))) (Prod.fst (val (v15 x1 x2 x3 x4))) (Prod.fst (Prod.snd (val (v15 x1 x2 x3 x4))))))) none)) none) none)
def xL6_92_0 (x0 : Bool) (x1 : Int) (x2 : Int) (x3 : Int) (x4 : Int) (x5 : Int) (x6 : Int) (x7 : Int) (x8 : Int) (x9 : Int) (x10 : Int) (x11 : Int) (x12 : Int) : Bool → Ex × CS := fun r => (.ret, { sl := [(6, .l 6 0), (7, .l 7 0), (12, .v (.sc (.bool (r)))), (14, .l 14 0), (15, .l 15 0), (16, .l 16 0), (18, .l 18 0)], lo := [], h := [], n0 := 0 })
theorem bL6_92_0 (k : Nat) (cX : Ex → CS → Option (Ex × CS)) (x0 : Bool) (x1 : Int) (x2 : Int) (x3 : Int) (x4 : Int) (x5 : Int) (x6 : Int) (x7 : Int) (x8 : Int) (x9 : Int) (x10 : Int) (x11 : Int) (x12 : Int) : pieceBody Try.prog (mkTn base o29 t29 6) (TM.evF Try.prog (mkTn base o29 t29) dOk (k + 40)) dOk (k + 40) (codeAt Try.prog (tn0 6) 6 92) 0 92 { sl := [(6, .l 6 0), (7, .l 7 0), (13, .v (.sc (.bool (x0)))), (14, .l 14 0), (15, .l 15 0), (16, .l 16 0), (18, .l 18 0)], lo := [(6, [.int .i64 (x1), .int .i64 (x2)]), (7, [.int .i64 (x3), .int .i64 (x4)]), (14, [.int .i64 (x5), .int .i64 (x6)]), (15, [.int .i64 (x7), .int .i64 (x8)]), (16, [.int .i64 (x9), .int .i64 (x10)]), (18, [.int .i64 (x11), .int .i64 (x12)])], h := [], n0 := 0 } cX = (cond (ok (v15 x5 x6 x7 x8)) (cond (ok (v15 x1 x2 x3 x4)) (cond (x0) (cond (ok (v33 (Prod.fst (val (v15 x5 x6 x7 x8))) (Prod.fst (Prod.snd (val (v15 x5 x6 x7 x8)))) (Prod.snd (Prod.snd (val (v15 x5 x6 x7 x8)))) (Prod.fst (val (v15 x1 x2 x3 x4))) (Prod.fst (Prod.snd (val (v15 x1 x2 x3 x4)))) (Prod.snd (Prod.snd (val (v15 x1 x2 x3 x4)))))) (cond (ok (L6_116_0 (val (v33 (Prod.fst (val (v15 x5 x6 x7 x8))) (Prod.fst (Prod.snd (val (v15 x5 x6 x7 x8)))) (Prod.snd (Prod.snd (val (v15 x5 x6 x7 x8)))) (Prod.fst (val (v15 x1 x2 x3 x4))) (Prod.fst (Prod.snd (val (v15 x1 x2 x3 x4)))) (Prod.snd (Prod.snd (val (v15 x1 x2 x3 x4)))))) x1 x2 x3 x4 x5 x6 x7 x8 (Prod.fst (val (v15 x5 x6 x7 x8))) (Prod.fst (Prod.snd (val (v15 x5 x6 x7 x8)))) (Prod.fst (val (v15 x1 x2 x3 x4))) (Prod.fst (Prod.snd (val (v15 x1 x2 x3 x4)))))) (cX .ret { sl := [(6, .l 6 0), (7, .l 7 0), (12, .v (.sc (.bool (val (L6_116_0 (val (v33 (Prod.fst (val (v15 x5 x6 x7 x8))) (Prod.fst (Prod.snd (val (v15 x5 x6 x7 x8)))) (Prod.snd (Prod.snd (val (v15 x5 x6 x7 x8)))) (Prod.fst (val (v15 x1 x2 x3 x4))) (Prod.fst (Prod.snd (val (v15 x1 x2 x3 x4)))) (Prod.snd (Prod.snd (val (v15 x1 x2 x3 x4)))))) x1 x2 x3 x4 x5 x6 x7 x8 (Prod.fst (val (v15 x5 x6 x7 x8))) (Prod.fst (Prod.snd (val (v15 x5 x6 x7 x8)))) (Prod.fst (val (v15 x1 x2 x3 x4))) (Prod.fst (Prod.snd (val (v15 x1 x2 x3 x4))))))))), (14, .l 14 0), (15, .l 15 0), (16, .l 16 0), (18, .l 18 0)], lo := [], h := [], n0 := 0 }) none) none) (cond (ok (L6_116_0 false x1 x2 x3 x4 x5 x6 x7 x8 (Prod.fst (val (v15 x5 x6 x7 x8))) (Prod.fst (Prod.snd (val (v15 x5 x6 x7 x8)))) (Prod.fst (val (v15 x1 x2 x3 x4))) (Prod.fst (Prod.snd (val (v15 x1 x2 x3 x4)))))) (cX .ret { sl := [(6, .l 6 0), (7, .l 7 0), (12, .v (.sc (.bool (val (L6_116_0 false x1 x2 x3 x4 x5 x6 x7 x8 (Prod.fst (val (v15 x5 x6 x7 x8))) (Prod.fst (Prod.snd (val (v15 x5 x6 x7 x8)))) (Prod.fst (val (v15 x1 x2 x3 x4))) (Prod.fst (Prod.snd (val (v15 x1 x2 x3 x4))))))))), (14, .l 14 0), (15, .l 15 0), (16, .l 16 0), (18, .l 18 0)], lo := [], h := [], n0 := 0 }) none)) none) none) := by kernel_rfl
theorem lL6_92_0 (k : Nat) (x0 : Bool) (x1 : Int) (x2 : Int) (x3 : Int) (x4 : Int) (x5 : Int) (x6 : Int) (x7 : Int) (x8 : Int) (x9 : Int) (x10 : Int) (x11 : Int) (x12 : Int) (r : Bool) : L6_92_0 x0 x1 x2 x3 x4 x5 x6 x7 x8 x9 x10 x11 x12 = some r → pieceBody Try.prog (mkTn base o29 t29 6) (TM.evF Try.prog (mkTn base o29 t29) dOk (k + 40)) dOk (k + 40) (codeAt Try.prog (tn0 6) 6 92) 0 92 { sl := [(6, .l 6 0), (7, .l 7 0), (13, .v (.sc (.bool (x0)))), (14, .l 14 0), (15, .l 15 0), (16, .l 16 0), (18, .l 18 0)], lo := [(6, [.int .i64 (x1), .int .i64 (x2)]), (7, [.int .i64 (x3), .int .i64 (x4)]), (14, [.int .i64 (x5), .int .i64 (x6)]), (15, [.int .i64 (x7), .int .i64 (x8)]), (16, [.int .i64 (x9), .int .i64 (x10)]), (18, [.int .i64 (x11), .int .i64 (x12)])], h := [], n0 := 0 } (fun e s => some (e, s)) = some (xL6_92_0 x0 x1 x2 x3 x4 x5 x6 x7 x8 x9 x10 x11 x12 r) := by
  rw [bL6_92_0]
  unfold L6_92_0
  cases (ok (v15 x5 x6 x7 x8)) with
  | true =>
    cases (ok (v15 x1 x2 x3 x4)) with
    | true =>
      cases x0 with
      | true =>
        cases (ok (v33 (Prod.fst (val (v15 x5 x6 x7 x8))) (Prod.fst (Prod.snd (val (v15 x5 x6 x7 x8)))) (Prod.snd (Prod.snd (val (v15 x5 x6 x7 x8)))) (Prod.fst (val (v15 x1 x2 x3 x4))) (Prod.fst (Prod.snd (val (v15 x1 x2 x3 x4)))) (Prod.snd (Prod.snd (val (v15 x1 x2 x3 x4)))))) with
        | true =>
          cases (ok (L6_116_0 (val (v33 (Prod.fst (val (v15 x5 x6 x7 x8))) (Prod.fst (Prod.snd (val (v15 x5 x6 x7 x8)))) (Prod.snd (Prod.snd (val (v15 x5 x6 x7 x8)))) (Prod.fst (val (v15 x1 x2 x3 x4))) (Prod.fst (Prod.snd (val (v15 x1 x2 x3 x4)))) (Prod.snd (Prod.snd (val (v15 x1 x2 x3 x4)))))) x1 x2 x3 x4 x5 x6 x7 x8 (Prod.fst (val (v15 x5 x6 x7 x8))) (Prod.fst (Prod.snd (val (v15 x5 x6 x7 x8)))) (Prod.fst (val (v15 x1 x2 x3 x4))) (Prod.fst (Prod.snd (val (v15 x1 x2 x3 x4)))))) with
          | true =>
            intro h; cases h; rfl
          | false =>
            intro h; cases h
        | false =>
          intro h; cases h
      | false =>
        cases (ok (L6_116_0 false x1 x2 x3 x4 x5 x6 x7 x8 (Prod.fst (val (v15 x5 x6 x7 x8))) (Prod.fst (Prod.snd (val (v15 x5 x6 x7 x8)))) (Prod.fst (val (v15 x1 x2 x3 x4))) (Prod.fst (Prod.snd (val (v15 x1 x2 x3 x4)))))) with
        | true =>
          intro h; cases h; rfl
        | false =>
          intro h; cases h
    | false =>
      intro h; cases h
  | false =>
    intro h; cases h
def sL6_92_0 : TellS := fun S => match S with
  | { sl := [(6, .l 6 0), (7, .l 7 0), (13, .v (.sc (.bool (x0)))), (14, .l 14 0), (15, .l 15 0), (16, .l 16 0), (18, .l 18 0)], lo := [(6, [.int .i64 (x1), .int .i64 (x2)]), (7, [.int .i64 (x3), .int .i64 (x4)]), (14, [.int .i64 (x5), .int .i64 (x6)]), (15, [.int .i64 (x7), .int .i64 (x8)]), (16, [.int .i64 (x9), .int .i64 (x10)]), (18, [.int .i64 (x11), .int .i64 (x12)])], h := [], n0 := 0 } => some [(ok (L6_92_0 x0 x1 x2 x3 x4 x5 x6 x7 x8 x9 x10 x11 x12), .ret, { sl := [(6, .l 6 0), (7, .l 7 0), (12, .v (.sc (.bool ((val (L6_92_0 x0 x1 x2 x3 x4 x5 x6 x7 x8 x9 x10 x11 x12)))))), (14, .l 14 0), (15, .l 15 0), (16, .l 16 0), (18, .l 18 0)], lo := [], h := [], n0 := 0 })]
  | _ => none
theorem wL6_92_0 : NewTell Try.prog dOk base o29 t29 ((6, 92), sL6_92_0) := by
  refine ⟨(codeAt Try.prog (tn0 6) 6 92), 0, by kernel_rfl, ?_⟩
  intro S alts e S' h1 h2
  have h1 : sL6_92_0 S = some alts := h1
  unfold sL6_92_0 at h1
  split at h1
  · cases h1
    obtain ⟨hc0, rfl, rfl⟩ := pick_one h2
    exact ⟨0 + 40, (evPiece_code rfl).trans (lL6_92_0 0 _ _ _ _ _ _ _ _ _ _ _ _ _ _ (ok_val hc0))⟩
  · cases h1
/-- queuelablaw06.IntervalContains: the piece 108 -/
def L4_108_0 (x0 : Bool) (x1 : Int) (x2 : Int) (x3 : Int) (x4 : Int) (x5 : Int) (x6 : Int) (x7 : Int) (x8 : Int) : Option (Bool ⊕ Bool) := (cond (ok (v23 x3 x4 x5 x6)) (cond (x0) (cond (ok (v30 (Prod.fst (val (v23 x3 x4 x5 x6))) (Prod.fst (Prod.snd (val (v23 x3 x4 x5 x6)))) (Prod.snd (Prod.snd (val (v23 x3 x4 x5 x6)))) (max x1 x2))) (cond (isL (L4_124_0 (val (v30 (Prod.fst (val (v23 x3 x4 x5 x6))) (Prod.fst (Prod.snd (val (v23 x3 x4 x5 x6)))) (Prod.snd (Prod.snd (val (v23 x3 x4 x5 x6)))) (max x1 x2))) x1 x2 x3 x4 x5 x6 (Prod.fst (val (v23 x3 x4 x5 x6))) (Prod.fst (Prod.snd (val (v23 x3 x4 x5 x6)))))) (some (.inl (getL (L4_124_0 (val (v30 (Prod.fst (val (v23 x3 x4 x5 x6))) (Prod.fst (Prod.snd (val (v23 x3 x4 x5 x6)))) (Prod.snd (Prod.snd (val (v23 x3 x4 x5 x6)))) (max x1 x2))) x1 x2 x3 x4 x5 x6 (Prod.fst (val (v23 x3 x4 x5 x6))) (Prod.fst (Prod.snd (val (v23 x3 x4 x5 x6)))))))) (cond (ok (getR (L4_124_0 (val (v30 (Prod.fst (val (v23 x3 x4 x5 x6))) (Prod.fst (Prod.snd (val (v23 x3 x4 x5 x6)))) (Prod.snd (Prod.snd (val (v23 x3 x4 x5 x6)))) (max x1 x2))) x1 x2 x3 x4 x5 x6 (Prod.fst (val (v23 x3 x4 x5 x6))) (Prod.fst (Prod.snd (val (v23 x3 x4 x5 x6))))))) (some (.inr (val (getR (L4_124_0 (val (v30 (Prod.fst (val (v23 x3 x4 x5 x6))) (Prod.fst (Prod.snd (val (v23 x3 x4 x5 x6)))) (Prod.snd (Prod.snd (val (v23 x3 x4 x5 x6)))) (max x1 x2))) x1 x2 x3 x4 x5 x6 (Prod.fst (val (v23 x3 x4 x5 x6))) (Prod.fst (Prod.snd (val (v23 x3 x4 x5 x6))))))))) none)) none) (cond (isL (L4_124_0 false x1 x2 x3 x4 x5 x6 (Prod.fst (val (v23 x3 x4 x5 x6))) (Prod.fst (Prod.snd (val (v23 x3 x4 x5 x6)))))) (some (.inl (getL (L4_124_0 false x1 x2 x3 x4 x5 x6 (Prod.fst (val (v23 x3 x4 x5 x6))) (Prod.fst (Prod.snd (val (v23 x3 x4 x5 x6)))))))) (cond (ok (getR (L4_124_0 false x1 x2 x3 x4 x5 x6 (Prod.fst (val (v23 x3 x4 x5 x6))) (Prod.fst (Prod.snd (val (v23 x3 x4 x5 x6))))))) (some (.inr (val (getR (L4_124_0 false x1 x2 x3 x4 x5 x6 (Prod.fst (val (v23 x3 x4 x5 x6))) (Prod.fst (Prod.snd (val (v23 x3 x4 x5 x6))))))))) none))) none)
def xL4_108_0 (x0 : Bool) (x1 : Int) (x2 : Int) (x3 : Int) (x4 : Int) (x5 : Int) (x6 : Int) (x7 : Int) (x8 : Int) : (Bool ⊕ Bool) → Ex × CS := fun r => match r with | .inl a0 => (.ret, { sl := [(4, .l 4 0), (5, .l 5 0), (8, .v (.sc (.bool (a0)))), (12, .l 12 0), (136, .l 5 0), (140, .l 5 1)], lo := [], h := [], n0 := 0 }) | .inr b0 => (.ret, { sl := [(4, .l 4 0), (5, .l 5 0), (8, .v (.sc (.bool (b0)))), (12, .l 12 0), (136, .l 5 0)], lo := [], h := [], n0 := 0 })
theorem bL4_108_0 (k : Nat) (cX : Ex → CS → Option (Ex × CS)) (x0 : Bool) (x1 : Int) (x2 : Int) (x3 : Int) (x4 : Int) (x5 : Int) (x6 : Int) (x7 : Int) (x8 : Int) : pieceBody Try.prog (mkTn base o29 t29 4) (TM.evF Try.prog (mkTn base o29 t29) dOk (k + 40)) dOk (k + 40) (codeAt Try.prog (tn0 4) 4 108) 0 108 { sl := [(4, .l 4 0), (5, .l 5 0), (9, .v (.sc (.bool (x0)))), (10, .v (.sc (.int .i64 (x1)))), (11, .v (.sc (.int .i64 (x2)))), (12, .l 12 0)], lo := [(4, [.int .i64 (x3), .int .i64 (x4)]), (5, [.int .i64 (x5), .int .i64 (x6)]), (12, [.int .i64 (x7), .int .i64 (x8)])], h := [], n0 := 0 } cX = (cond (ok (v23 x3 x4 x5 x6)) (cond (x0) (cond (ok (v30 (Prod.fst (val (v23 x3 x4 x5 x6))) (Prod.fst (Prod.snd (val (v23 x3 x4 x5 x6)))) (Prod.snd (Prod.snd (val (v23 x3 x4 x5 x6)))) (max x1 x2))) (cond (isL (L4_124_0 (val (v30 (Prod.fst (val (v23 x3 x4 x5 x6))) (Prod.fst (Prod.snd (val (v23 x3 x4 x5 x6)))) (Prod.snd (Prod.snd (val (v23 x3 x4 x5 x6)))) (max x1 x2))) x1 x2 x3 x4 x5 x6 (Prod.fst (val (v23 x3 x4 x5 x6))) (Prod.fst (Prod.snd (val (v23 x3 x4 x5 x6)))))) (cX .ret { sl := [(4, .l 4 0), (5, .l 5 0), (8, .v (.sc (.bool (getL (L4_124_0 (val (v30 (Prod.fst (val (v23 x3 x4 x5 x6))) (Prod.fst (Prod.snd (val (v23 x3 x4 x5 x6)))) (Prod.snd (Prod.snd (val (v23 x3 x4 x5 x6)))) (max x1 x2))) x1 x2 x3 x4 x5 x6 (Prod.fst (val (v23 x3 x4 x5 x6))) (Prod.fst (Prod.snd (val (v23 x3 x4 x5 x6))))))))), (12, .l 12 0), (136, .l 5 0), (140, .l 5 1)], lo := [], h := [], n0 := 0 }) (cond (ok (getR (L4_124_0 (val (v30 (Prod.fst (val (v23 x3 x4 x5 x6))) (Prod.fst (Prod.snd (val (v23 x3 x4 x5 x6)))) (Prod.snd (Prod.snd (val (v23 x3 x4 x5 x6)))) (max x1 x2))) x1 x2 x3 x4 x5 x6 (Prod.fst (val (v23 x3 x4 x5 x6))) (Prod.fst (Prod.snd (val (v23 x3 x4 x5 x6))))))) (cX .ret { sl := [(4, .l 4 0), (5, .l 5 0), (8, .v (.sc (.bool (val (getR (L4_124_0 (val (v30 (Prod.fst (val (v23 x3 x4 x5 x6))) (Prod.fst (Prod.snd (val (v23 x3 x4 x5 x6)))) (Prod.snd (Prod.snd (val (v23 x3 x4 x5 x6)))) (max x1 x2))) x1 x2 x3 x4 x5 x6 (Prod.fst (val (v23 x3 x4 x5 x6))) (Prod.fst (Prod.snd (val (v23 x3 x4 x5 x6)))))))))), (12, .l 12 0), (136, .l 5 0)], lo := [], h := [], n0 := 0 }) none)) none) (cond (isL (L4_124_0 false x1 x2 x3 x4 x5 x6 (Prod.fst (val (v23 x3 x4 x5 x6))) (Prod.fst (Prod.snd (val (v23 x3 x4 x5 x6)))))) (cX .ret { sl := [(4, .l 4 0), (5, .l 5 0), (8, .v (.sc (.bool (getL (L4_124_0 false x1 x2 x3 x4 x5 x6 (Prod.fst (val (v23 x3 x4 x5 x6))) (Prod.fst (Prod.snd (val (v23 x3 x4 x5 x6))))))))), (12, .l 12 0), (136, .l 5 0), (140, .l 5 1)], lo := [], h := [], n0 := 0 }) (cond (ok (getR (L4_124_0 false x1 x2 x3 x4 x5 x6 (Prod.fst (val (v23 x3 x4 x5 x6))) (Prod.fst (Prod.snd (val (v23 x3 x4 x5 x6))))))) (cX .ret { sl := [(4, .l 4 0), (5, .l 5 0), (8, .v (.sc (.bool (val (getR (L4_124_0 false x1 x2 x3 x4 x5 x6 (Prod.fst (val (v23 x3 x4 x5 x6))) (Prod.fst (Prod.snd (val (v23 x3 x4 x5 x6)))))))))), (12, .l 12 0), (136, .l 5 0)], lo := [], h := [], n0 := 0 }) none))) none) := by kernel_rfl
theorem lL4_108_0 (k : Nat) (x0 : Bool) (x1 : Int) (x2 : Int) (x3 : Int) (x4 : Int) (x5 : Int) (x6 : Int) (x7 : Int) (x8 : Int) (r : (Bool ⊕ Bool)) : L4_108_0 x0 x1 x2 x3 x4 x5 x6 x7 x8 = some r → pieceBody Try.prog (mkTn base o29 t29 4) (TM.evF Try.prog (mkTn base o29 t29) dOk (k + 40)) dOk (k + 40) (codeAt Try.prog (tn0 4) 4 108) 0 108 { sl := [(4, .l 4 0), (5, .l 5 0), (9, .v (.sc (.bool (x0)))), (10, .v (.sc (.int .i64 (x1)))), (11, .v (.sc (.int .i64 (x2)))), (12, .l 12 0)], lo := [(4, [.int .i64 (x3), .int .i64 (x4)]), (5, [.int .i64 (x5), .int .i64 (x6)]), (12, [.int .i64 (x7), .int .i64 (x8)])], h := [], n0 := 0 } (fun e s => some (e, s)) = some (xL4_108_0 x0 x1 x2 x3 x4 x5 x6 x7 x8 r) := by
  rw [bL4_108_0]
  unfold L4_108_0
  cases (ok (v23 x3 x4 x5 x6)) with
  | true =>
    cases x0 with
    | true =>
      cases (ok (v30 (Prod.fst (val (v23 x3 x4 x5 x6))) (Prod.fst (Prod.snd (val (v23 x3 x4 x5 x6)))) (Prod.snd (Prod.snd (val (v23 x3 x4 x5 x6)))) (max x1 x2))) with
      | true =>
        cases (isL (L4_124_0 (val (v30 (Prod.fst (val (v23 x3 x4 x5 x6))) (Prod.fst (Prod.snd (val (v23 x3 x4 x5 x6)))) (Prod.snd (Prod.snd (val (v23 x3 x4 x5 x6)))) (max x1 x2))) x1 x2 x3 x4 x5 x6 (Prod.fst (val (v23 x3 x4 x5 x6))) (Prod.fst (Prod.snd (val (v23 x3 x4 x5 x6)))))) with
        | true =>
          intro h; cases h; rfl
        | false =>
          cases (ok (getR (L4_124_0 (val (v30 (Prod.fst (val (v23 x3 x4 x5 x6))) (Prod.fst (Prod.snd (val (v23 x3 x4 x5 x6)))) (Prod.snd (Prod.snd (val (v23 x3 x4 x5 x6)))) (max x1 x2))) x1 x2 x3 x4 x5 x6 (Prod.fst (val (v23 x3 x4 x5 x6))) (Prod.fst (Prod.snd (val (v23 x3 x4 x5 x6))))))) with
          | true =>
            intro h; cases h; rfl
          | false =>
            intro h; cases h
      | false =>
        intro h; cases h
    | false =>
      cases (isL (L4_124_0 false x1 x2 x3 x4 x5 x6 (Prod.fst (val (v23 x3 x4 x5 x6))) (Prod.fst (Prod.snd (val (v23 x3 x4 x5 x6)))))) with
      | true =>
        intro h; cases h; rfl
      | false =>
        cases (ok (getR (L4_124_0 false x1 x2 x3 x4 x5 x6 (Prod.fst (val (v23 x3 x4 x5 x6))) (Prod.fst (Prod.snd (val (v23 x3 x4 x5 x6))))))) with
        | true =>
          intro h; cases h; rfl
        | false =>
          intro h; cases h
  | false =>
    intro h; cases h
def sL4_108_0 : TellS := fun S => match S with
  | { sl := [(4, .l 4 0), (5, .l 5 0), (9, .v (.sc (.bool (x0)))), (10, .v (.sc (.int .i64 (x1)))), (11, .v (.sc (.int .i64 (x2)))), (12, .l 12 0)], lo := [(4, [.int .i64 (x3), .int .i64 (x4)]), (5, [.int .i64 (x5), .int .i64 (x6)]), (12, [.int .i64 (x7), .int .i64 (x8)])], h := [], n0 := 0 } => some [(isL (L4_108_0 x0 x1 x2 x3 x4 x5 x6 x7 x8), .ret, { sl := [(4, .l 4 0), (5, .l 5 0), (8, .v (.sc (.bool ((getL (L4_108_0 x0 x1 x2 x3 x4 x5 x6 x7 x8)))))), (12, .l 12 0), (136, .l 5 0), (140, .l 5 1)], lo := [], h := [], n0 := 0 }), (ok (getR (L4_108_0 x0 x1 x2 x3 x4 x5 x6 x7 x8)), .ret, { sl := [(4, .l 4 0), (5, .l 5 0), (8, .v (.sc (.bool ((val (getR (L4_108_0 x0 x1 x2 x3 x4 x5 x6 x7 x8))))))), (12, .l 12 0), (136, .l 5 0)], lo := [], h := [], n0 := 0 })]
  | _ => none
theorem wL4_108_0 : NewTell Try.prog dOk base o29 t29 ((4, 108), sL4_108_0) := by
  refine ⟨(codeAt Try.prog (tn0 4) 4 108), 0, by kernel_rfl, ?_⟩
  intro S alts e S' h1 h2
  have h1 : sL4_108_0 S = some alts := h1
  unfold sL4_108_0 at h1
  split at h1
  · cases h1
    rcases pick_cons h2 with ⟨hc0, rfl, rfl⟩ | h2
    · exact ⟨0 + 40, (evPiece_code rfl).trans (lL4_108_0 0 _ _ _ _ _ _ _ _ _ _ (isL_val hc0))⟩
    obtain ⟨hc1, rfl, rfl⟩ := pick_one h2
    exact ⟨0 + 40, (evPiece_code rfl).trans (lL4_108_0 0 _ _ _ _ _ _ _ _ _ _ (getR_val (ok_val hc1)))⟩
  · cases h1
def o30 : OrcT := o29
def t30 : TellT := ((5, 36), sL5_36_0) :: ((6, 92), sL6_92_0) :: ((4, 108), sL4_108_0) :: t29
abbrev tn30 : FuncId → TAn := mkTn base o30 t30
theorem ok30 : TnOk Try.prog tn30 (mkA base) dOk := by
  have h0 : TnOk Try.prog (mkTn base o29 t29) (mkA base) dOk := ok29
  have h1 := tn_tell h0 h0 (p := ((4, 108), sL4_108_0)) wL4_108_0
  have h2 := tn_tell h0 h1 (p := ((6, 92), sL6_92_0)) wL6_92_0
  have h3 := tn_tell h0 h2 (p := ((5, 36), sL5_36_0)) wL5_36_0
  exact h3
end Go.Proofs.Ytojbaamhnfinpaa
