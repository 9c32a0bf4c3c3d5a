/- What some functions and loops come to: printed and checked. Written by a program of ours. -/
import Derived.Test.YtojbaamhnfinpaaG2
set_option linter.all false
set_option linter.constructorNameAsVariable false
set_option linter.unnecessarySimpa false
set_option linter.unusedSimpArgs false
set_option linter.unusedVariables false
set_option maxRecDepth 1000000
set_option linter.unusedVariables false
set_option maxHeartbeats 4000000
namespace Go.Proofs.Ytojbaamhnfinpaa
open Go Go.AM Go.TM Go.Proofs
/-- queuelablaw06.IntervalLeast -/
def v5 (x0 : Int) (x1 : Int) (x2 : Int) (x3 : Int) : Option Bool := (cond (ok (v28 x0 x1)) (cond (!val (v28 x0 x1)) (some (true)) (cond (ok (v28 x2 x3)) (cond (!val (v28 x2 x3)) (some (true)) (cond (ok (L5_36_0 (val v10) x0 x1 x2 x3)) (some (val (L5_36_0 (val v10) x0 x1 x2 x3))) none)) none)) none)
theorem ev5 (x0 : Int) (x1 : Int) (x2 : Int) (x3 : Int) : fnBody Try.prog (mkTn base o30 t30 5) (TM.evF Try.prog (mkTn base o30 t30) dOk 40) dOk 40 5 [.agg [.int .i64 (x0), .int .i64 (x1)], .agg [.int .i64 (x2), .int .i64 (x3)]] [] = (v5 x0 x1 x2 x3).bind fun r => some ([.sc (.bool (r))], []) := by
  have h : fnBody Try.prog (mkTn base o30 t30 5) (TM.evF Try.prog (mkTn base o30 t30) dOk 40) dOk 40 5 [.agg [.int .i64 (x0), .int .i64 (x1)], .agg [.int .i64 (x2), .int .i64 (x3)]] [] = (cond (ok (v28 x0 x1)) (cond (!val (v28 x0 x1)) (some ([.sc (.bool (true))], [])) (cond (ok (v28 x2 x3)) (cond (!val (v28 x2 x3)) (some ([.sc (.bool (true))], [])) (cond (ok (L5_36_0 (val v10) x0 x1 x2 x3)) (some ([.sc (.bool (val (L5_36_0 (val v10) x0 x1 x2 x3)))], [])) none)) none)) none) := by kernel_rfl
  rw [h]
  unfold v5
  cases (ok (v28 x0 x1)) with
  | true =>
    cases (!val (v28 x0 x1)) with
    | true =>
      rfl
    | false =>
      cases (ok (v28 x2 x3)) with
      | true =>
        cases (!val (v28 x2 x3)) with
        | true =>
          rfl
        | false =>
          cases (ok (L5_36_0 (val v10) x0 x1 x2 x3)) with
          | true =>
            rfl
          | false =>
            rfl
      | false =>
        rfl
  | false =>
    rfl
def sv5 : OrcS := fun al H => match al, H with
  | [.agg [.int .i64 (x0), .int .i64 (x1)], .agg [.int .i64 (x2), .int .i64 (x3)]], [] => some (ok (v5 x0 x1 x2 x3), [.sc (.bool ((val (v5 x0 x1 x2 x3))))], [])
  | _, _ => none
theorem wv5 : NewOrc Try.prog dOk base o30 t30 (5, sv5) := by
  intro al H q hq hq1
  have hq : sv5 al H = some q := hq
  unfold sv5 at hq
  split at hq
  · cases hq
    exact ⟨41, (ev5 _ _ _ _).trans (ok_bind hq1)⟩
  · cases hq
/-- queuelablaw06.IntervalNarrower: the piece 68 -/
def L6_68_0 (x0 : Bool) (x1 : Int) (x2 : Int) (x3 : Int) (x4 : Int) (x5 : Int) (x6 : Int) (x7 : Int) (x8 : Int) (x9 : Int) (x10 : Int) (x11 : Int) (x12 : Int) : Option Bool := (cond (ok (v13 x5 x6 x7 x8)) (cond (ok (v13 x1 x2 x3 x4)) (cond (x0) (cond (ok (v33 (Prod.fst (val (v13 x5 x6 x7 x8))) (Prod.fst (Prod.snd (val (v13 x5 x6 x7 x8)))) (Prod.snd (Prod.snd (val (v13 x5 x6 x7 x8)))) (Prod.fst (val (v13 x1 x2 x3 x4))) (Prod.fst (Prod.snd (val (v13 x1 x2 x3 x4)))) (Prod.snd (Prod.snd (val (v13 x1 x2 x3 x4)))))) (cond (ok (L6_92_0 (val (v33 (Prod.fst (val (v13 x5 x6 x7 x8))) (Prod.fst (Prod.snd (val (v13 x5 x6 x7 x8)))) (Prod.snd (Prod.snd (val (v13 x5 x6 x7 x8)))) (Prod.fst (val (v13 x1 x2 x3 x4))) (Prod.fst (Prod.snd (val (v13 x1 x2 x3 x4)))) (Prod.snd (Prod.snd (val (v13 x1 x2 x3 x4)))))) x1 x2 x3 x4 x5 x6 x7 x8 (Prod.fst (val (v13 x5 x6 x7 x8))) (Prod.fst (Prod.snd (val (v13 x5 x6 x7 x8)))) (Prod.fst (val (v13 x1 x2 x3 x4))) (Prod.fst (Prod.snd (val (v13 x1 x2 x3 x4)))))) (some (val (L6_92_0 (val (v33 (Prod.fst (val (v13 x5 x6 x7 x8))) (Prod.fst (Prod.snd (val (v13 x5 x6 x7 x8)))) (Prod.snd (Prod.snd (val (v13 x5 x6 x7 x8)))) (Prod.fst (val (v13 x1 x2 x3 x4))) (Prod.fst (Prod.snd (val (v13 x1 x2 x3 x4)))) (Prod.snd (Prod.snd (val (v13 x1 x2 x3 x4)))))) x1 x2 x3 x4 x5 x6 x7 x8 (Prod.fst (val (v13 x5 x6 x7 x8))) (Prod.fst (Prod.snd (val (v13 x5 x6 x7 x8)))) (Prod.fst (val (v13 x1 x2 x3 x4))) (Prod.fst (Prod.snd (val (v13 x1 x2 x3 x4))))))) none) none) (cond (ok (L6_92_0 false x1 x2 x3 x4 x5 x6 x7 x8 (Prod.fst (val (v13 x5 x6 x7 x8))) (Prod.fst (Prod.snd (val (v13 x5 x6 x7 x8)))) (Prod.fst (val (v13 x1 x2 x3 x4))) (Prod.fst (Prod.snd (val (v13 x1 x2 x3 x4)))))) (some (val (L6_92_0 false x1 x2 x3 x4 x5 x6 x7 x8 (Prod.fst (val (v13 x5 x6 x7 x8))) (Prod.fst (Prod.snd (val (v13 x5 x6 x7 x8)))) (Prod.fst (val (v13 x1 x2 x3 x4))) (Prod.fst (Prod.snd (val (v13 x1 x2 x3 x4))))))) none)) none) none)
def xL6_68_0 (x0 : Bool) (x1 : Int) (x2 : Int) (x3 : Int) (x4 : Int) (x5 : Int) (x6 : Int) (x7 : Int) (x8 : Int) (x9 : Int) (x10 : Int) (x11 : Int) (x12 : Int) : Bool → Ex × CS := fun r => (.ret, { sl := [(6, .l 6 0), (7, .l 7 0), (12, .v (.sc (.bool (r)))), (14, .l 14 0), (15, .l 15 0), (16, .l 16 0), (18, .l 18 0)], lo := [], h := [], n0 := 0 })
theorem bL6_68_0 (k : Nat) (cX : Ex → CS → Option (Ex × CS)) (x0 : Bool) (x1 : Int) (x2 : Int) (x3 : Int) (x4 : Int) (x5 : Int) (x6 : Int) (x7 : Int) (x8 : Int) (x9 : Int) (x10 : Int) (x11 : Int) (x12 : Int) : pieceBody Try.prog (mkTn base o30 t30 6) (TM.evF Try.prog (mkTn base o30 t30) dOk (k + 40)) dOk (k + 40) (codeAt Try.prog (tn0 6) 6 68) 0 68 { sl := [(6, .l 6 0), (7, .l 7 0), (13, .v (.sc (.bool (x0)))), (14, .l 14 0), (15, .l 15 0), (16, .l 16 0), (18, .l 18 0)], lo := [(6, [.int .i64 (x1), .int .i64 (x2)]), (7, [.int .i64 (x3), .int .i64 (x4)]), (14, [.int .i64 (x5), .int .i64 (x6)]), (15, [.int .i64 (x7), .int .i64 (x8)]), (16, [.int .i64 (x9), .int .i64 (x10)]), (18, [.int .i64 (x11), .int .i64 (x12)])], h := [], n0 := 0 } cX = (cond (ok (v13 x5 x6 x7 x8)) (cond (ok (v13 x1 x2 x3 x4)) (cond (x0) (cond (ok (v33 (Prod.fst (val (v13 x5 x6 x7 x8))) (Prod.fst (Prod.snd (val (v13 x5 x6 x7 x8)))) (Prod.snd (Prod.snd (val (v13 x5 x6 x7 x8)))) (Prod.fst (val (v13 x1 x2 x3 x4))) (Prod.fst (Prod.snd (val (v13 x1 x2 x3 x4)))) (Prod.snd (Prod.snd (val (v13 x1 x2 x3 x4)))))) (cond (ok (L6_92_0 (val (v33 (Prod.fst (val (v13 x5 x6 x7 x8))) (Prod.fst (Prod.snd (val (v13 x5 x6 x7 x8)))) (Prod.snd (Prod.snd (val (v13 x5 x6 x7 x8)))) (Prod.fst (val (v13 x1 x2 x3 x4))) (Prod.fst (Prod.snd (val (v13 x1 x2 x3 x4)))) (Prod.snd (Prod.snd (val (v13 x1 x2 x3 x4)))))) x1 x2 x3 x4 x5 x6 x7 x8 (Prod.fst (val (v13 x5 x6 x7 x8))) (Prod.fst (Prod.snd (val (v13 x5 x6 x7 x8)))) (Prod.fst (val (v13 x1 x2 x3 x4))) (Prod.fst (Prod.snd (val (v13 x1 x2 x3 x4)))))) (cX .ret { sl := [(6, .l 6 0), (7, .l 7 0), (12, .v (.sc (.bool (val (L6_92_0 (val (v33 (Prod.fst (val (v13 x5 x6 x7 x8))) (Prod.fst (Prod.snd (val (v13 x5 x6 x7 x8)))) (Prod.snd (Prod.snd (val (v13 x5 x6 x7 x8)))) (Prod.fst (val (v13 x1 x2 x3 x4))) (Prod.fst (Prod.snd (val (v13 x1 x2 x3 x4)))) (Prod.snd (Prod.snd (val (v13 x1 x2 x3 x4)))))) x1 x2 x3 x4 x5 x6 x7 x8 (Prod.fst (val (v13 x5 x6 x7 x8))) (Prod.fst (Prod.snd (val (v13 x5 x6 x7 x8)))) (Prod.fst (val (v13 x1 x2 x3 x4))) (Prod.fst (Prod.snd (val (v13 x1 x2 x3 x4))))))))), (14, .l 14 0), (15, .l 15 0), (16, .l 16 0), (18, .l 18 0)], lo := [], h := [], n0 := 0 }) none) none) (cond (ok (L6_92_0 false x1 x2 x3 x4 x5 x6 x7 x8 (Prod.fst (val (v13 x5 x6 x7 x8))) (Prod.fst (Prod.snd (val (v13 x5 x6 x7 x8)))) (Prod.fst (val (v13 x1 x2 x3 x4))) (Prod.fst (Prod.snd (val (v13 x1 x2 x3 x4)))))) (cX .ret { sl := [(6, .l 6 0), (7, .l 7 0), (12, .v (.sc (.bool (val (L6_92_0 false x1 x2 x3 x4 x5 x6 x7 x8 (Prod.fst (val (v13 x5 x6 x7 x8))) (Prod.fst (Prod.snd (val (v13 x5 x6 x7 x8)))) (Prod.fst (val (v13 x1 x2 x3 x4))) (Prod.fst (Prod.snd (val (v13 x1 x2 x3 x4))))))))), (14, .l 14 0), (15, .l 15 0), (16, .l 16 0), (18, .l 18 0)], lo := [], h := [], n0 := 0 }) none)) none) none) := by kernel_rfl
theorem lL6_68_0 (k : Nat) (x0 : Bool) (x1 : Int) (x2 : Int) (x3 : Int) (x4 : Int) (x5 : Int) (x6 : Int) (x7 : Int) (x8 : Int) (x9 : Int) (x10 : Int) (x11 : Int) (x12 : Int) (r : Bool) : L6_68_0 x0 x1 x2 x3 x4 x5 x6 x7 x8 x9 x10 x11 x12 = some r → pieceBody Try.prog (mkTn base o30 t30 6) (TM.evF Try.prog (mkTn base o30 t30) dOk (k + 40)) dOk (k + 40) (codeAt Try.prog (tn0 6) 6 68) 0 68 { sl := [(6, .l 6 0), (7, .l 7 0), (13, .v (.sc (.bool (x0)))), (14, .l 14 0), (15, .l 15 0), (16, .l 16 0), (18, .l 18 0)], lo := [(6, [.int .i64 (x1), .int .i64 (x2)]), (7, [.int .i64 (x3), .int .i64 (x4)]), (14, [.int .i64 (x5), .int .i64 (x6)]), (15, [.int .i64 (x7), .int .i64 (x8)]), (16, [.int .i64 (x9), .int .i64 (x10)]), (18, [.int .i64 (x11), .int .i64 (x12)])], h := [], n0 := 0 } (fun e s => some (e, s)) = some (xL6_68_0 x0 x1 x2 x3 x4 x5 x6 x7 x8 x9 x10 x11 x12 r) := by
  rw [bL6_68_0]
  unfold L6_68_0
  cases (ok (v13 x5 x6 x7 x8)) with
  | true =>
    cases (ok (v13 x1 x2 x3 x4)) with
    | true =>
      cases x0 with
      | true =>
        cases (ok (v33 (Prod.fst (val (v13 x5 x6 x7 x8))) (Prod.fst (Prod.snd (val (v13 x5 x6 x7 x8)))) (Prod.snd (Prod.snd (val (v13 x5 x6 x7 x8)))) (Prod.fst (val (v13 x1 x2 x3 x4))) (Prod.fst (Prod.snd (val (v13 x1 x2 x3 x4)))) (Prod.snd (Prod.snd (val (v13 x1 x2 x3 x4)))))) with
        | true =>
          cases (ok (L6_92_0 (val (v33 (Prod.fst (val (v13 x5 x6 x7 x8))) (Prod.fst (Prod.snd (val (v13 x5 x6 x7 x8)))) (Prod.snd (Prod.snd (val (v13 x5 x6 x7 x8)))) (Prod.fst (val (v13 x1 x2 x3 x4))) (Prod.fst (Prod.snd (val (v13 x1 x2 x3 x4)))) (Prod.snd (Prod.snd (val (v13 x1 x2 x3 x4)))))) x1 x2 x3 x4 x5 x6 x7 x8 (Prod.fst (val (v13 x5 x6 x7 x8))) (Prod.fst (Prod.snd (val (v13 x5 x6 x7 x8)))) (Prod.fst (val (v13 x1 x2 x3 x4))) (Prod.fst (Prod.snd (val (v13 x1 x2 x3 x4)))))) with
          | true =>
            intro h; cases h; rfl
          | false =>
            intro h; cases h
        | false =>
          intro h; cases h
      | false =>
        cases (ok (L6_92_0 false x1 x2 x3 x4 x5 x6 x7 x8 (Prod.fst (val (v13 x5 x6 x7 x8))) (Prod.fst (Prod.snd (val (v13 x5 x6 x7 x8)))) (Prod.fst (val (v13 x1 x2 x3 x4))) (Prod.fst (Prod.snd (val (v13 x1 x2 x3 x4)))))) with
        | true =>
          intro h; cases h; rfl
        | false =>
          intro h; cases h
    | false =>
      intro h; cases h
  | false =>
    intro h; cases h
def sL6_68_0 : TellS := fun S => match S with
  | { sl := [(6, .l 6 0), (7, .l 7 0), (13, .v (.sc (.bool (x0)))), (14, .l 14 0), (15, .l 15 0), (16, .l 16 0), (18, .l 18 0)], lo := [(6, [.int .i64 (x1), .int .i64 (x2)]), (7, [.int .i64 (x3), .int .i64 (x4)]), (14, [.int .i64 (x5), .int .i64 (x6)]), (15, [.int .i64 (x7), .int .i64 (x8)]), (16, [.int .i64 (x9), .int .i64 (x10)]), (18, [.int .i64 (x11), .int .i64 (x12)])], h := [], n0 := 0 } => some [(ok (L6_68_0 x0 x1 x2 x3 x4 x5 x6 x7 x8 x9 x10 x11 x12), .ret, { sl := [(6, .l 6 0), (7, .l 7 0), (12, .v (.sc (.bool ((val (L6_68_0 x0 x1 x2 x3 x4 x5 x6 x7 x8 x9 x10 x11 x12)))))), (14, .l 14 0), (15, .l 15 0), (16, .l 16 0), (18, .l 18 0)], lo := [], h := [], n0 := 0 })]
  | _ => none
theorem wL6_68_0 : NewTell Try.prog dOk base o30 t30 ((6, 68), sL6_68_0) := by
  refine ⟨(codeAt Try.prog (tn0 6) 6 68), 0, by kernel_rfl, ?_⟩
  intro S alts e S' h1 h2
  have h1 : sL6_68_0 S = some alts := h1
  unfold sL6_68_0 at h1
  split at h1
  · cases h1
    obtain ⟨hc0, rfl, rfl⟩ := pick_one h2
    exact ⟨0 + 40, (evPiece_code rfl).trans (lL6_68_0 0 _ _ _ _ _ _ _ _ _ _ _ _ _ _ (ok_val hc0))⟩
  · cases h1
/-- queuelablaw06.IntervalContains: the piece 92 -/
def L4_92_0 (x0 : Bool) (x1 : Int) (x2 : Int) (x3 : Int) (x4 : Int) (x5 : Int) (x6 : Int) (x7 : Int) (x8 : Int) : Option (Bool ⊕ Bool) := (cond (ok (v21 x3 x4 x5 x6)) (cond (x0) (cond (ok (v30 (Prod.fst (val (v21 x3 x4 x5 x6))) (Prod.fst (Prod.snd (val (v21 x3 x4 x5 x6)))) (Prod.snd (Prod.snd (val (v21 x3 x4 x5 x6)))) (min x1 x2))) (cond (isL (L4_108_0 (val (v30 (Prod.fst (val (v21 x3 x4 x5 x6))) (Prod.fst (Prod.snd (val (v21 x3 x4 x5 x6)))) (Prod.snd (Prod.snd (val (v21 x3 x4 x5 x6)))) (min x1 x2))) x1 x2 x3 x4 x5 x6 (Prod.fst (val (v21 x3 x4 x5 x6))) (Prod.fst (Prod.snd (val (v21 x3 x4 x5 x6)))))) (some (.inl (getL (L4_108_0 (val (v30 (Prod.fst (val (v21 x3 x4 x5 x6))) (Prod.fst (Prod.snd (val (v21 x3 x4 x5 x6)))) (Prod.snd (Prod.snd (val (v21 x3 x4 x5 x6)))) (min x1 x2))) x1 x2 x3 x4 x5 x6 (Prod.fst (val (v21 x3 x4 x5 x6))) (Prod.fst (Prod.snd (val (v21 x3 x4 x5 x6)))))))) (cond (ok (getR (L4_108_0 (val (v30 (Prod.fst (val (v21 x3 x4 x5 x6))) (Prod.fst (Prod.snd (val (v21 x3 x4 x5 x6)))) (Prod.snd (Prod.snd (val (v21 x3 x4 x5 x6)))) (min x1 x2))) x1 x2 x3 x4 x5 x6 (Prod.fst (val (v21 x3 x4 x5 x6))) (Prod.fst (Prod.snd (val (v21 x3 x4 x5 x6))))))) (some (.inr (val (getR (L4_108_0 (val (v30 (Prod.fst (val (v21 x3 x4 x5 x6))) (Prod.fst (Prod.snd (val (v21 x3 x4 x5 x6)))) (Prod.snd (Prod.snd (val (v21 x3 x4 x5 x6)))) (min x1 x2))) x1 x2 x3 x4 x5 x6 (Prod.fst (val (v21 x3 x4 x5 x6))) (Prod.fst (Prod.snd (val (v21 x3 x4 x5 x6))))))))) none)) none) (cond (isL (L4_108_0 false x1 x2 x3 x4 x5 x6 (Prod.fst (val (v21 x3 x4 x5 x6))) (Prod.fst (Prod.snd (val (v21 x3 x4 x5 x6)))))) (some (.inl (getL (L4_108_0 false x1 x2 x3 x4 x5 x6 (Prod.fst (val (v21 x3 x4 x5 x6))) (Prod.fst (Prod.snd (val (v21 x3 x4 x5 x6)))))))) (cond (ok (getR (L4_108_0 false x1 x2 x3 x4 x5 x6 (Prod.fst (val (v21 x3 x4 x5 x6))) (Prod.fst (Prod.snd (val (v21 x3 x4 x5 x6))))))) (some (.inr (val (getR (L4_108_0 false x1 x2 x3 x4 x5 x6 (Prod.fst (val (v21 x3 x4 x5 x6))) (Prod.fst (Prod.snd (val (v21 x3 x4 x5 x6))))))))) none))) none)
def xL4_92_0 (x0 : Bool) (x1 : Int) (x2 : Int) (x3 : Int) (x4 : Int) (x5 : Int) (x6 : Int) (x7 : Int) (x8 : Int) : (Bool ⊕ Bool) → Ex × CS := fun r => match r with | .inl a0 => (.ret, { sl := [(4, .l 4 0), (5, .l 5 0), (8, .v (.sc (.bool (a0)))), (12, .l 12 0), (136, .l 5 0), (140, .l 5 1)], lo := [], h := [], n0 := 0 }) | .inr b0 => (.ret, { sl := [(4, .l 4 0), (5, .l 5 0), (8, .v (.sc (.bool (b0)))), (12, .l 12 0), (136, .l 5 0)], lo := [], h := [], n0 := 0 })
theorem bL4_92_0 (k : Nat) (cX : Ex → CS → Option (Ex × CS)) (x0 : Bool) (x1 : Int) (x2 : Int) (x3 : Int) (x4 : Int) (x5 : Int) (x6 : Int) (x7 : Int) (x8 : Int) : pieceBody Try.prog (mkTn base o30 t30 4) (TM.evF Try.prog (mkTn base o30 t30) dOk (k + 40)) dOk (k + 40) (codeAt Try.prog (tn0 4) 4 92) 0 92 { sl := [(4, .l 4 0), (5, .l 5 0), (9, .v (.sc (.bool (x0)))), (10, .v (.sc (.int .i64 (x1)))), (11, .v (.sc (.int .i64 (x2)))), (12, .l 12 0)], lo := [(4, [.int .i64 (x3), .int .i64 (x4)]), (5, [.int .i64 (x5), .int .i64 (x6)]), (12, [.int .i64 (x7), .int .i64 (x8)])], h := [], n0 := 0 } cX = (cond (ok (v21 x3 x4 x5 x6)) (cond (x0) (cond (ok (v30 (Prod.fst (val (v21 x3 x4 x5 x6))) (Prod.fst (Prod.snd (val (v21 x3 x4 x5 x6)))) (Prod.snd (Prod.snd (val (v21 x3 x4 x5 x6)))) (min x1 x2))) (cond (isL (L4_108_0 (val (v30 (Prod.fst (val (v21 x3 x4 x5 x6))) (Prod.fst (Prod.snd (val (v21 x3 x4 x5 x6)))) (Prod.snd (Prod.snd (val (v21 x3 x4 x5 x6)))) (min x1 x2))) x1 x2 x3 x4 x5 x6 (Prod.fst (val (v21 x3 x4 x5 x6))) (Prod.fst (Prod.snd (val (v21 x3 x4 x5 x6)))))) (cX .ret { sl := [(4, .l 4 0), (5, .l 5 0), (8, .v (.sc (.bool (getL (L4_108_0 (val (v30 (Prod.fst (val (v21 x3 x4 x5 x6))) (Prod.fst (Prod.snd (val (v21 x3 x4 x5 x6)))) (Prod.snd (Prod.snd (val (v21 x3 x4 x5 x6)))) (min x1 x2))) x1 x2 x3 x4 x5 x6 (Prod.fst (val (v21 x3 x4 x5 x6))) (Prod.fst (Prod.snd (val (v21 x3 x4 x5 x6))))))))), (12, .l 12 0), (136, .l 5 0), (140, .l 5 1)], lo := [], h := [], n0 := 0 }) (cond (ok (getR (L4_108_0 (val (v30 (Prod.fst (val (v21 x3 x4 x5 x6))) (Prod.fst (Prod.snd (val (v21 x3 x4 x5 x6)))) (Prod.snd (Prod.snd (val (v21 x3 x4 x5 x6)))) (min x1 x2))) x1 x2 x3 x4 x5 x6 (Prod.fst (val (v21 x3 x4 x5 x6))) (Prod.fst (Prod.snd (val (v21 x3 x4 x5 x6))))))) (cX .ret { sl := [(4, .l 4 0), (5, .l 5 0), (8, .v (.sc (.bool (val (getR (L4_108_0 (val (v30 (Prod.fst (val (v21 x3 x4 x5 x6))) (Prod.fst (Prod.snd (val (v21 x3 x4 x5 x6)))) (Prod.snd (Prod.snd (val (v21 x3 x4 x5 x6)))) (min x1 x2))) x1 x2 x3 x4 x5 x6 (Prod.fst (val (v21 x3 x4 x5 x6))) (Prod.fst (Prod.snd (val (v21 x3 x4 x5 x6)))))))))), (12, .l 12 0), (136, .l 5 0)], lo := [], h := [], n0 := 0 }) none)) none) (cond (isL (L4_108_0 false x1 x2 x3 x4 x5 x6 (Prod.fst (val (v21 x3 x4 x5 x6))) (Prod.fst (Prod.snd (val (v21 x3 x4 x5 x6)))))) (cX .ret { sl := [(4, .l 4 0), (5, .l 5 0), (8, .v (.sc (.bool (getL (L4_108_0 false x1 x2 x3 x4 x5 x6 (Prod.fst (val (v21 x3 x4 x5 x6))) (Prod.fst (Prod.snd (val (v21 x3 x4 x5 x6))))))))), (12, .l 12 0), (136, .l 5 0), (140, .l 5 1)], lo := [], h := [], n0 := 0 }) (cond (ok (getR (L4_108_0 false x1 x2 x3 x4 x5 x6 (Prod.fst (val (v21 x3 x4 x5 x6))) (Prod.fst (Prod.snd (val (v21 x3 x4 x5 x6))))))) (cX .ret { sl := [(4, .l 4 0), (5, .l 5 0), (8, .v (.sc (.bool (val (getR (L4_108_0 false x1 x2 x3 x4 x5 x6 (Prod.fst (val (v21 x3 x4 x5 x6))) (Prod.fst (Prod.snd (val (v21 x3 x4 x5 x6)))))))))), (12, .l 12 0), (136, .l 5 0)], lo := [], h := [], n0 := 0 }) none))) none) := by kernel_rfl
theorem lL4_92_0 (k : Nat) (x0 : Bool) (x1 : Int) (x2 : Int) (x3 : Int) (x4 : Int) (x5 : Int) (x6 : Int) (x7 : Int) (x8 : Int) (r : (Bool ⊕ Bool)) : L4_92_0 x0 x1 x2 x3 x4 x5 x6 x7 x8 = some r → pieceBody Try.prog (mkTn base o30 t30 4) (TM.evF Try.prog (mkTn base o30 t30) dOk (k + 40)) dOk (k + 40) (codeAt Try.prog (tn0 4) 4 92) 0 92 { sl := [(4, .l 4 0), (5, .l 5 0), (9, .v (.sc (.bool (x0)))), (10, .v (.sc (.int .i64 (x1)))), (11, .v (.sc (.int .i64 (x2)))), (12, .l 12 0)], lo := [(4, [.int .i64 (x3), .int .i64 (x4)]), (5, [.int .i64 (x5), .int .i64 (x6)]), (12, [.int .i64 (x7), .int .i64 (x8)])], h := [], n0 := 0 } (fun e s => some (e, s)) = some (xL4_92_0 x0 x1 x2 x3 x4 x5 x6 x7 x8 r) := by
  rw [bL4_92_0]
  unfold L4_92_0
  cases (ok (v21 x3 x4 x5 x6)) with
  | true =>
    cases x0 with
    | true =>
      cases (ok (v30 (Prod.fst (val (v21 x3 x4 x5 x6))) (Prod.fst (Prod.snd (val (v21 x3 x4 x5 x6)))) (Prod.snd (Prod.snd (val (v21 x3 x4 x5 x6)))) (min x1 x2))) with
      | true =>
        cases (isL (L4_108_0 (val (v30 (Prod.fst (val (v21 x3 x4 x5 x6))) (Prod.fst (Prod.snd (val (v21 x3 x4 x5 x6)))) (Prod.snd (Prod.snd (val (v21 x3 x4 x5 x6)))) (min x1 x2))) x1 x2 x3 x4 x5 x6 (Prod.fst (val (v21 x3 x4 x5 x6))) (Prod.fst (Prod.snd (val (v21 x3 x4 x5 x6)))))) with
        | true =>
          intro h; cases h; rfl
        | false =>
          cases (ok (getR (L4_108_0 (val (v30 (Prod.fst (val (v21 x3 x4 x5 x6))) (Prod.fst (Prod.snd (val (v21 x3 x4 x5 x6)))) (Prod.snd (Prod.snd (val (v21 x3 x4 x5 x6)))) (min x1 x2))) x1 x2 x3 x4 x5 x6 (Prod.fst (val (v21 x3 x4 x5 x6))) (Prod.fst (Prod.snd (val (v21 x3 x4 x5 x6))))))) with
          | true =>
            intro h; cases h; rfl
          | false =>
            intro h; cases h
      | false =>
        intro h; cases h
    | false =>
      cases (isL (L4_108_0 false x1 x2 x3 x4 x5 x6 (Prod.fst (val (v21 x3 x4 x5 x6))) (Prod.fst (Prod.snd (val (v21 x3 x4 x5 x6)))))) with
      | true =>
        intro h; cases h; rfl
      | false =>
        cases (ok (getR (L4_108_0 false x1 x2 x3 x4 x5 x6 (Prod.fst (val (v21 x3 x4 x5 x6))) (Prod.fst (Prod.snd (val (v21 x3 x4 x5 x6))))))) with
        | true =>
          intro h; cases h; rfl
        | false =>
          intro h; cases h
  | false =>
    intro h; cases h
def sL4_92_0 : TellS := fun S => match S with
  | { sl := [(4, .l 4 0), (5, .l 5 0), (9, .v (.sc (.bool (x0)))), (10, .v (.sc (.int .i64 (x1)))), (11, .v (.sc (.int .i64 (x2)))), (12, .l 12 0)], lo := [(4, [.int .i64 (x3), .int .i64 (x4)]), (5, [.int .i64 (x5), .int .i64 (x6)]), (12, [.int .i64 (x7), .int .i64 (x8)])], h := [], n0 := 0 } => some [(isL (L4_92_0 x0 x1 x2 x3 x4 x5 x6 x7 x8), .ret, { sl := [(4, .l 4 0), (5, .l 5 0), (8, .v (.sc (.bool ((getL (L4_92_0 x0 x1 x2 x3 x4 x5 x6 x7 x8)))))), (12, .l 12 0), (136, .l 5 0), (140, .l 5 1)], lo := [], h := [], n0 := 0 }), (ok (getR (L4_92_0 x0 x1 x2 x3 x4 x5 x6 x7 x8)), .ret, { sl := [(4, .l 4 0), (5, .l 5 0), (8, .v (.sc (.bool ((val (getR (L4_92_0 x0 x1 x2 x3 x4 x5 x6 x7 x8))))))), (12, .l 12 0), (136, .l 5 0)], lo := [], h := [], n0 := 0 })]
  | _ => none
theorem wL4_92_0 : NewTell Try.prog dOk base o30 t30 ((4, 92), sL4_92_0) := by
  refine ⟨(codeAt Try.prog (tn0 4) 4 92), 0, by kernel_rfl, ?_⟩
  intro S alts e S' h1 h2
  have h1 : sL4_92_0 S = some alts := h1
  unfold sL4_92_0 at h1
  split at h1
  · cases h1
    rcases pick_cons h2 with ⟨hc0, rfl, rfl⟩ | h2
    · exact ⟨0 + 40, (evPiece_code rfl).trans (lL4_92_0 0 _ _ _ _ _ _ _ _ _ _ (isL_val hc0))⟩
    obtain ⟨hc1, rfl, rfl⟩ := pick_one h2
    exact ⟨0 + 40, (evPiece_code rfl).trans (lL4_92_0 0 _ _ _ _ _ _ _ _ _ _ (getR_val (ok_val hc1)))⟩
  · cases h1
def o31 : OrcT := (5, sv5) :: o30
def t31 : TellT := ((6, 68), sL6_68_0) :: ((4, 92), sL4_92_0) :: t30
abbrev tn31 : FuncId → TAn := mkTn base o31 t31
theorem ok31 : TnOk Try.prog tn31 (mkA base) dOk := by
  have h0 : TnOk Try.prog (mkTn base o30 t30) (mkA base) dOk := ok30
  have h1 := tn_orc h0 h0 (p := (5, sv5)) wv5
  have h2 := tn_tell h0 h1 (p := ((4, 92), sL4_92_0)) wL4_92_0
  have h3 := tn_tell h0 h2 (p := ((6, 68), sL6_68_0)) wL6_68_0
  exact h3
end Go.Proofs.Ytojbaamhnfinpaa
