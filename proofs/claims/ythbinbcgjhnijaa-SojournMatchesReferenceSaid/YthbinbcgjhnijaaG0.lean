/- What the machines are told of each function. Written by a program of ours. -/
import Derived.Test.YthbinbcgjhnijaaB8
import Derived.Test.YthbinbcgjhnijaaProg
import Derived.KernelRfl
set_option linter.all false
set_option maxRecDepth 1000000
set_option maxHeartbeats 4000000
namespace Go.Proofs.Ythbinbcgjhnijaa
open Go Go.AM Go.TM Go.Proofs
abbrev PKt := (Int × (Int × (Int × (Int × (Int × (Int × (Bool × Bool)))))))
abbrev PKy : Ty := (.pair (.int .i64) (.pair (.int .i64) (.pair (.int .i64) (.pair (.int .i64) (.pair (.int .i64) (.pair (.int .i64) (.pair .bool .bool)))))))
abbrev QDy : Ty := .pair PKy (.int .i64)
abbrev PKz : PKt := ((0 : Int), (0 : Int), (0 : Int), (0 : Int), (0 : Int), (0 : Int), false, false)
noncomputable abbrev I4 (x : Int) : TC := .int .i64 x
theorem dJ2 {R : Type} {r : R} {k0 k1 : IntKind} {l : List TC} {K : Int → Int → List TC → Option R} (h : dCI k0 l (fun a0 m0 => dCI k1 m0 (K a0)) = some r) : ∃ a0 a1 m, l = .int k0 a0 :: .int k1 a1 :: m ∧ K a0 a1 m = some r := by
 replace h := zC h; obtain ⟨a0, m, rfl, h⟩ := h
 replace h := zC h; obtain ⟨a1, m, rfl, h⟩ := h
 exact ⟨a0, a1, m, rfl, h⟩
theorem dJ3 {R : Type} {r : R} {k0 k1 k2 : IntKind} {l : List TC} {K : Int → Int → Int → List TC → Option R} (h : dCI k0 l (fun a0 m0 => dCI k1 m0 (fun a1 m1 => dCI k2 m1 (K a0 a1))) = some r) : ∃ a0 a1 a2 m, l = .int k0 a0 :: .int k1 a1 :: .int k2 a2 :: m ∧ K a0 a1 a2 m = some r := by
 replace h := zC h; obtain ⟨a0, m, rfl, h⟩ := h
 replace h := zC h; obtain ⟨a1, m, rfl, h⟩ := h
 replace h := zC h; obtain ⟨a2, m, rfl, h⟩ := h
 exact ⟨a0, a1, a2, m, rfl, h⟩
theorem dJ4 {R : Type} {r : R} {k0 k1 k2 k3 : IntKind} {l : List TC} {K : Int → Int → Int → Int → List TC → Option R} (h : dCI k0 l (fun a0 m0 => dCI k1 m0 (fun a1 m1 => dCI k2 m1 (fun a2 m2 => dCI k3 m2 (K a0 a1 a2)))) = some r) : ∃ a0 a1 a2 a3 m, l = .int k0 a0 :: .int k1 a1 :: .int k2 a2 :: .int k3 a3 :: m ∧ K a0 a1 a2 a3 m = some r := by
 replace h := zC h; obtain ⟨a0, m, rfl, h⟩ := h
 replace h := zC h; obtain ⟨a1, m, rfl, h⟩ := h
 replace h := zC h; obtain ⟨a2, m, rfl, h⟩ := h
 replace h := zC h; obtain ⟨a3, m, rfl, h⟩ := h
 exact ⟨a0, a1, a2, a3, m, rfl, h⟩
theorem dJ5 {R : Type} {r : R} {k0 k1 k2 k3 k4 : IntKind} {l : List TC} {K : Int → Int → Int → Int → Int → List TC → Option R} (h : dCI k0 l (fun a0 m0 => dCI k1 m0 (fun a1 m1 => dCI k2 m1 (fun a2 m2 => dCI k3 m2 (fun a3 m3 => dCI k4 m3 (K a0 a1 a2 a3))))) = some r) : ∃ a0 a1 a2 a3 a4 m, l = .int k0 a0 :: .int k1 a1 :: .int k2 a2 :: .int k3 a3 :: .int k4 a4 :: m ∧ K a0 a1 a2 a3 a4 m = some r := by
 replace h := zC h; obtain ⟨a0, m, rfl, h⟩ := h
 replace h := zC h; obtain ⟨a1, m, rfl, h⟩ := h
 replace h := zC h; obtain ⟨a2, m, rfl, h⟩ := h
 replace h := zC h; obtain ⟨a3, m, rfl, h⟩ := h
 replace h := zC h; obtain ⟨a4, m, rfl, h⟩ := h
 exact ⟨a0, a1, a2, a3, a4, m, rfl, h⟩
theorem dJ6 {R : Type} {r : R} {k0 k1 k2 k3 k4 k5 : IntKind} {l : List TC} {K : Int → Int → Int → Int → Int → Int → List TC → Option R} (h : dCI k0 l (fun a0 m0 => dCI k1 m0 (fun a1 m1 => dCI k2 m1 (fun a2 m2 => dCI k3 m2 (fun a3 m3 => dCI k4 m3 (fun a4 m4 => dCI k5 m4 (K a0 a1 a2 a3 a4)))))) = some r) : ∃ a0 a1 a2 a3 a4 a5 m, l = .int k0 a0 :: .int k1 a1 :: .int k2 a2 :: .int k3 a3 :: .int k4 a4 :: .int k5 a5 :: m ∧ K a0 a1 a2 a3 a4 a5 m = some r := by
 replace h := zC h; obtain ⟨a0, m, rfl, h⟩ := h
 replace h := zC h; obtain ⟨a1, m, rfl, h⟩ := h
 replace h := zC h; obtain ⟨a2, m, rfl, h⟩ := h
 replace h := zC h; obtain ⟨a3, m, rfl, h⟩ := h
 replace h := zC h; obtain ⟨a4, m, rfl, h⟩ := h
 replace h := zC h; obtain ⟨a5, m, rfl, h⟩ := h
 exact ⟨a0, a1, a2, a3, a4, a5, m, rfl, h⟩
theorem dJ7 {R : Type} {r : R} {k0 k1 k2 k3 k4 k5 k6 : IntKind} {l : List TC} {K : Int → Int → Int → Int → Int → Int → Int → List TC → Option R} (h : dCI k0 l (fun a0 m0 => dCI k1 m0 (fun a1 m1 => dCI k2 m1 (fun a2 m2 => dCI k3 m2 (fun a3 m3 => dCI k4 m3 (fun a4 m4 => dCI k5 m4 (fun a5 m5 => dCI k6 m5 (K a0 a1 a2 a3 a4 a5))))))) = some r) : ∃ a0 a1 a2 a3 a4 a5 a6 m, l = .int k0 a0 :: .int k1 a1 :: .int k2 a2 :: .int k3 a3 :: .int k4 a4 :: .int k5 a5 :: .int k6 a6 :: m ∧ K a0 a1 a2 a3 a4 a5 a6 m = some r := by
 replace h := zC h; obtain ⟨a0, m, rfl, h⟩ := h
 replace h := zC h; obtain ⟨a1, m, rfl, h⟩ := h
 replace h := zC h; obtain ⟨a2, m, rfl, h⟩ := h
 replace h := zC h; obtain ⟨a3, m, rfl, h⟩ := h
 replace h := zC h; obtain ⟨a4, m, rfl, h⟩ := h
 replace h := zC h; obtain ⟨a5, m, rfl, h⟩ := h
 replace h := zC h; obtain ⟨a6, m, rfl, h⟩ := h
 exact ⟨a0, a1, a2, a3, a4, a5, a6, m, rfl, h⟩
theorem dJ8 {R : Type} {r : R} {k0 k1 k2 k3 k4 k5 k6 k7 : IntKind} {l : List TC} {K : Int → Int → Int → Int → Int → Int → Int → Int → List TC → Option R} (h : dCI k0 l (fun a0 m0 => dCI k1 m0 (fun a1 m1 => dCI k2 m1 (fun a2 m2 => dCI k3 m2 (fun a3 m3 => dCI k4 m3 (fun a4 m4 => dCI k5 m4 (fun a5 m5 => dCI k6 m5 (fun a6 m6 => dCI k7 m6 (K a0 a1 a2 a3 a4 a5 a6)))))))) = some r) : ∃ a0 a1 a2 a3 a4 a5 a6 a7 m, l = .int k0 a0 :: .int k1 a1 :: .int k2 a2 :: .int k3 a3 :: .int k4 a4 :: .int k5 a5 :: .int k6 a6 :: .int k7 a7 :: m ∧ K a0 a1 a2 a3 a4 a5 a6 a7 m = some r := by
 replace h := zC h; obtain ⟨a0, m, rfl, h⟩ := h
 replace h := zC h; obtain ⟨a1, m, rfl, h⟩ := h
 replace h := zC h; obtain ⟨a2, m, rfl, h⟩ := h
 replace h := zC h; obtain ⟨a3, m, rfl, h⟩ := h
 replace h := zC h; obtain ⟨a4, m, rfl, h⟩ := h
 replace h := zC h; obtain ⟨a5, m, rfl, h⟩ := h
 replace h := zC h; obtain ⟨a6, m, rfl, h⟩ := h
 replace h := zC h; obtain ⟨a7, m, rfl, h⟩ := h
 exact ⟨a0, a1, a2, a3, a4, a5, a6, a7, m, rfl, h⟩
theorem dJ9 {R : Type} {r : R} {k0 k1 k2 k3 k4 k5 k6 k7 k8 : IntKind} {l : List TC} {K : Int → Int → Int → Int → Int → Int → Int → Int → Int → List TC → Option R} (h : dCI k0 l (fun a0 m0 => dCI k1 m0 (fun a1 m1 => dCI k2 m1 (fun a2 m2 => dCI k3 m2 (fun a3 m3 => dCI k4 m3 (fun a4 m4 => dCI k5 m4 (fun a5 m5 => dCI k6 m5 (fun a6 m6 => dCI k7 m6 (fun a7 m7 => dCI k8 m7 (K a0 a1 a2 a3 a4 a5 a6 a7))))))))) = some r) : ∃ a0 a1 a2 a3 a4 a5 a6 a7 a8 m, l = .int k0 a0 :: .int k1 a1 :: .int k2 a2 :: .int k3 a3 :: .int k4 a4 :: .int k5 a5 :: .int k6 a6 :: .int k7 a7 :: .int k8 a8 :: m ∧ K a0 a1 a2 a3 a4 a5 a6 a7 a8 m = some r := by
 replace h := zC h; obtain ⟨a0, m, rfl, h⟩ := h
 replace h := zC h; obtain ⟨a1, m, rfl, h⟩ := h
 replace h := zC h; obtain ⟨a2, m, rfl, h⟩ := h
 replace h := zC h; obtain ⟨a3, m, rfl, h⟩ := h
 replace h := zC h; obtain ⟨a4, m, rfl, h⟩ := h
 replace h := zC h; obtain ⟨a5, m, rfl, h⟩ := h
 replace h := zC h; obtain ⟨a6, m, rfl, h⟩ := h
 replace h := zC h; obtain ⟨a7, m, rfl, h⟩ := h
 replace h := zC h; obtain ⟨a8, m, rfl, h⟩ := h
 exact ⟨a0, a1, a2, a3, a4, a5, a6, a7, a8, m, rfl, h⟩
abbrev dK {R : Type} (l : List TC) (K : Int → List TC → Option R) : Option R := dCI .i64 l K
def base : List (FuncId × TAn) := [
 (2, { a := { loc := [], keep := [] }, own := false, crow := [], cuts := [], live := [], coe := [], nt := 1 }),
 (3, { a := { loc := [3, 4, 8, 11, 14, 15, 19, 20], keep := [], keepR := [(0, [2, 3, 4]), (1, [2, 3, 4, 7]), (2, [2, 3, 4, 7, 27]), (3, [6]), (4, [2, 3, 4, 7, 8, 9, 10]), (5, [2, 3, 7, 8, 9, 10, 11, 12, 13]), (6, [2, 3, 7, 8, 9, 10, 11, 12, 13, 14, 15, 16, 17, 18]), (7, [3, 7, 8, 9, 10, 11, 12, 13, 14, 15, 16, 17, 18, 19, 20, 21, 22, 23]), (8, [6])], ro := [16, 17, 19] }, own := false, crow := [], cuts := [4], live := [(36, [2, 3, 4, 7], [3, 4]), (37, [6], []), (38, [6], []), (39, [6], [])], coe := [(36, [((1, 3, 5), 51, true)])], nt := 111 }),
 (10, { a := { loc := [1], keep := [] }, own := false, crow := [], cuts := [], live := [], coe := [], nt := 28 }),
 (11, { a := { loc := [1, 5, 11, 18], keep := [(0, [1, 3], [1])] }, own := false, crow := [], cuts := [], live := [(0, [1, 3], [1]), (2, [1], [1]), (3, [2], [])], coe := [(0, [((1, 1, 5), 51, true)])], nt := 22 }),
 (12, { a := { loc := [3, 4, 6, 55], keep := [], hst := [31, 36, 43, 48, 50, 57], rt := [(4, 4), (6, 6)], ldb := [43, 48], ro := [33] }, own := false, crow := [], cuts := [3, 6, 8], live := [(28, [2, 3, 4, 6], [3, 4, 6]), (29, [6, 7, 8], [6]), (30, [6, 7, 8], [6]), (31, [6, 7, 8], [6]), (52, [2, 4, 6, 9], [4, 6]), (53, [6, 7, 8], [6]), (54, [6, 7, 8], [6]), (55, [6, 7, 8], [6]), (68, [2, 4, 6, 9], [4, 6]), (69, [6, 7, 8], [6]), (70, [6, 7, 8], [6]), (71, [6, 7, 8], [6])], coe := [(28, [((1, 3, 5), 51, true), ((1, 6, 5), 51, true)]), (52, [((1, 6, 5), 51, true)]), (68, [((1, 6, 5), 51, true)])], nt := 62 }),
 (13, { a := { loc := [3, 4, 6, 23, 30, 22, 44], keep := [], rt := [(3, 3), (4, 4), (6, 6)], ro := [35], fr := [(35, 3)] }, own := false, crow := [], cuts := [], live := [], coe := [], nt := 51 }),
 (14, { a := { loc := [2, 4, 5, 13, 46, 52, 53, 58, 61, 62, 67, 68, 73], keep := [(0, [1, 4, 5, 9, 11, 12], [4, 5])], hst := [11, 38, 43, 71, 80], rt := [(4, 4), (5, 5), (73, 13)], ro := [33] }, own := false, crow := [], cuts := [4, 8, 12], live := [(0, [1, 4, 5, 9, 11, 12], [4, 5]), (2, [4, 5, 9, 11], [4, 5]), (3, [4, 5, 6, 7, 8], [4, 5]), (36, [1, 4, 5, 9], [4, 5]), (37, [4, 5, 6, 7, 8], [4, 5]), (38, [4, 5, 6, 7, 8], [4, 5]), (39, [4, 5, 6, 7, 8], [4, 5]), (68, [1, 4, 5, 9, 11, 12, 13], [4, 5, 13]), (69, [1, 4, 5, 9, 11, 12], [4, 5]), (70, [1, 4, 5, 9, 11, 12], [4, 5]), (71, [4, 5, 6, 7, 8], [4, 5]), (100, [4, 5, 9, 11, 13, 14], [4, 5, 13]), (101, [1, 4, 5, 9, 11, 12], [4, 5]), (102, [1, 4, 5, 9, 11, 12], [4, 5]), (103, [4, 5, 6, 7, 8], [4, 5])], coe := [(0, [((1, 4, 5), 51, true), ((2, 4, 0), 30, true), ((2, 3, 0), 55, true)]), (36, [((1, 4, 5), 51, true)]), (68, [((1, 4, 5), 51, true)]), (100, [((1, 4, 5), 51, true)])], nt := 84 }),
 (15, { a := { loc := [2, 4, 5, 12, 24, 47, 48, 51, 52, 53, 54, 55, 56, 60, 61, 65, 66, 68, 69, 73, 74, 78, 79, 80, 81, 83, 84, 86, 87, 93, 94, 97, 105, 110, 118, 119, 120, 121, 23, 42, 103], keep := [(0, [1, 2, 4, 5, 10, 11], [2, 4, 5])], rt := [(2, 2), (4, 4), (5, 5), (12, 12), (81, 2), (84, 2), (87, 2), (94, 2)], ro := [35], fr := [(35, 3)] }, own := false, crow := [], cuts := [], live := [(0, [1, 2, 4, 5, 10, 11], [2, 4, 5]), (2, [1, 2, 4, 5, 10, 11], [2, 4, 5]), (3, [4, 5, 6, 7, 8], [4, 5])], coe := [(0, [((0, 10, 0), 55, true), ((0, 11, 0), 30, true), ((1, 2, 5), 51, true), ((1, 4, 5), 51, true)])], nt := 129 }),
 (16, { a := { loc := [2, 3, 6, 8, 12, 14, 19, 21, 26, 28, 33, 36, 42, 48, 53], keep := [(0, [2, 3, 5], [2, 3])], hst := [51, 56], ro := [28] }, own := false, crow := [], cuts := [], live := [(0, [2, 3, 5], [2, 3]), (2, [], []), (3, [4], [])], coe := [(0, [((1, 2, 5), 51, true), ((1, 3, 5), 51, true)])], nt := 60 }),
 (17, { a := { loc := [], keep := [(0, [0, 1, 5], [])] }, own := false, crow := [], cuts := [], live := [(0, [0, 1, 5], []), (2, [], []), (3, [4], [])], coe := [(0, [((0, 0, 0), 30, true), ((0, 1, 0), 30, true)])], nt := 26 }),
 (18, { a := { loc := [1, 3, 7, 8, 10, 12, 16, 22, 28, 33, 39, 45, 58, 82, 87, 93, 102, 107, 115], keep := [(0, [4, 5, 96, 97, 98], [])], hst := [4, 49, 54, 56, 66, 72, 76, 84], rt := [(3, 3), (8, 1), (10, 1)], ro := [39, 40] }, own := false, crow := [], cuts := [4, 6, 8], live := [(0, [4, 5, 96, 97, 98], []), (2, [], []), (3, [2], []), (36, [1, 3, 4], [1, 3]), (37, [2], []), (38, [2], []), (39, [2], []), (52, [1, 4], [1]), (53, [2], []), (54, [2], []), (55, [2], []), (68, [1, 4], [1]), (69, [2], []), (70, [2], []), (71, [2], [])], coe := [(0, [((0, 96, 0), 55, true)]), (36, [((1, 1, 5), 51, true)]), (52, [((1, 1, 5), 51, true)]), (68, [((1, 1, 5), 51, true)])], nt := 118 }),
 (19, { a := { loc := [1, 3, 5, 7, 11, 16, 21, 26, 31, 36, 41, 46, 52, 57, 58, 63, 64, 68, 69, 71, 72, 74, 81, 82, 87, 88, 93, 94, 98, 99, 109, 110, 113, 118, 122, 126, 127], keep := [(0, [1, 4], [1])], hst := [115, 124], rt := [(3, 3)], ro := [26, 43] }, own := false, crow := [], cuts := [4, 6, 11], live := [(0, [1, 4], [1]), (2, [1], [1]), (3, [2], []), (36, [1, 3], [1, 3]), (37, [2], []), (38, [2], []), (39, [2], []), (52, [1], [1]), (53, [2], []), (54, [2], []), (55, [2], []), (92, [1], [1]), (93, [2], []), (94, [2], []), (95, [2], [])], coe := [(0, [((1, 1, 5), 51, true)]), (36, [((1, 1, 5), 51, true)]), (52, [((1, 1, 5), 51, true)]), (92, [((1, 1, 5), 51, true)])], nt := 131 }),
 (26, { a := { loc := [], keep := [] }, own := false, crow := [], cuts := [], live := [], coe := [], nt := 9 }),
 (27, { a := { loc := [1, 3, 7, 12, 17, 22, 27, 32, 37, 42], keep := [], ro := [26, 44] }, own := false, crow := [], cuts := [], live := [], coe := [], nt := 46 }),
 (28, { a := { loc := [], keep := [(0, [0, 1, 5], [])] }, own := false, crow := [], cuts := [], live := [(0, [0, 1, 5], []), (2, [], []), (3, [4], [])], coe := [(0, [((0, 0, 0), 55, true), ((0, 1, 0), 55, true)])], nt := 26 }),
 (29, { a := { loc := [6], keep := [] }, own := false, crow := [], cuts := [], live := [], coe := [], nt := 14 }),
 (30, { a := { loc := [5, 7, 13, 14, 15, 54, 69, 70, 72, 77, 78, 80, 84], keep := [(0, [0, 1, 5, 20], [5]), (2, [0, 1, 5, 10, 11, 46, 47, 48], [5])] }, own := false, crow := [], cuts := [], live := [(0, [0, 1, 5, 20], [5]), (2, [0, 1, 5], [5]), (3, [4], []), (16, [0, 1, 5, 10, 11, 46, 47, 48], [5]), (18, [0, 1, 10, 11], []), (19, [4], [])], coe := [(0, [((1, 5, 5), 51, true)]), (16, [((0, 46, 0), 77, true), ((1, 5, 5), 51, true)])], nt := 117 }),
 (31, { a := { loc := [1, 3, 7, 12, 17, 22, 27], keep := [] }, own := false, crow := [], cuts := [], live := [], coe := [], nt := 31 }),
 (32, { a := { loc := [2, 19, 20, 27, 32, 40], keep := [], hst := [29, 34] }, own := false, crow := [47], cuts := [], live := [], coe := [], nt := 58 }),
 (33, { a := { loc := [], keep := [] }, own := true, crow := [], cuts := [], live := [], coe := [], nt := 10 }),
 (34, { a := { loc := [2, 14, 15], keep := [] }, own := false, crow := [], cuts := [], live := [], coe := [], nt := 18 }),
 (35, { a := { loc := [3, 6, 8, 10, 11], keep := [], rt := [(6, 6), (8, 3), (11, 3)] }, own := false, crow := [], cuts := [], live := [], coe := [], nt := 13 }),
 (36, { a := { loc := [2, 5], keep := [] }, own := false, crow := [], cuts := [], live := [], coe := [], nt := 7 }),
 (37, { a := { loc := [], keep := [], hst := [30, 36, 41, 56, 61, 64, 70, 74, 81] }, own := false, crow := [], cuts := [], live := [], coe := [], nt := 82 }),
 (38, { a := { loc := [], keep := [], hst := [7, 11] }, own := false, crow := [], cuts := [], live := [], coe := [], nt := 12 }),
 (39, { a := { loc := [], keep := [] }, own := false, crow := [], cuts := [], live := [], coe := [], nt := 15 }),
 (40, { a := { loc := [], keep := [], ro := [39] }, own := false, crow := [], cuts := [], live := [], coe := [], nt := 5 }),
 (41, { a := { loc := [], keep := [] }, own := false, crow := [], cuts := [], live := [], coe := [], nt := 9 }),
 (42, { a := { loc := [], keep := [] }, own := false, crow := [], cuts := [], live := [], coe := [], nt := 5 }),
 (43, { a := { loc := [], keep := [(0, [0, 1, 5], [])], hst := [15, 23, 32, 44, 50], ro := [26, 27] }, own := false, crow := [], cuts := [], live := [(0, [0, 1, 5], []), (2, [], []), (3, [4], [])], coe := [(0, [((0, 0, 0), 55, true)])], nt := 55 }),
 (44, { a := { loc := [], keep := [] }, own := false, crow := [], cuts := [], live := [], coe := [], nt := 9 }),
 (45, { a := { loc := [], keep := [(0, [0, 1, 7, 8], [])] }, own := false, crow := [], cuts := [], live := [(0, [0, 1, 7, 8], []), (2, [], []), (3, [4], [])], coe := [(0, [((0, 0, 0), 3, true)])], nt := 19 })]
def o0 : OrcT := []
def t0 : TellT := []
noncomputable abbrev tn0 : FuncId → TAn := zj base o0 t0
theorem names : yj Try.prog = true := by kernel_rfl
theorem mixed : Try.prog.follows .mixedOrders = true := by kernel_rfl
theorem ok0 : TnOk Try.prog tn0 (mkA base) dOk := tn_nil (by kernel_rfl)
noncomputable def Lah : Nat → Int → Int → Int → Int → Int → Int → (List (List (PKt × Int))) → Int → Int → Int → Int → Int → Int → Int → Int → Int → Option (Bool ⊕ Unit)
 | 0, _, _, _, _, _, _, _, _, _, _, _, _, _, _, _, _ => none
 | n + 1, x0, x1, x2, x3, x4, x5, x6, x7, x8, x9, A, B, C, D, E, F => (cond (decide (x0 < (x6.length : Int))) (cond (decide (0 ≤ x0)) (cond (decide ((↑(List.length (List.getD x6 x0.toNat [])) : Int) > (600 : Int))) (some (.inl (false))) (Lah n (IntKind.wrap IntKind.i64 (x0 + (1 : Int))) x1 x2 x3 x4 x5 x6 x7 x8 x9 A B C D E F)) none) (some (.inr ())))
theorem qLah : type_of% @Lah.eq_2 := @Lah.eq_2
noncomputable def xLah (x0 x1 x2 x3 x4 x5 : Int) (x6 : (List (List (PKt × Int)))) (x7 x8 x9 A B C D E F : Int) : (Bool ⊕ Unit) → Ex × CS := fun r => match r with | .inl a0 => (.ret, { sl := [(2, .v (.sc (.bool (a0))))], lo := [], h := [], n0 := 0, w := true }) | .inr b0 => ((.exit 0), { sl := [(1, .l 1 0), (5, .l 1 5)], lo := [(1, [I4 (x1), I4 (x2), I4 (x3), I4 (x4), I4 (x5), .d 51 (.list 55 QDy) (x6), I4 (x7), I4 (x8), I4 (x9), I4 (A), I4 (B), I4 (C), I4 (D), I4 (E), .int .u64 (F)])], h := [], n0 := 0, w := false })
theorem bLah (k : Nat) (cN : CS → Option (Ex × CS)) (cX : Ex → CS → Option (Ex × CS)) (x0 x1 x2 x3 x4 x5 : Int) (x6 : (List (List (PKt × Int)))) (x7 x8 x9 A B C D E F : Int) : xl Try.prog (tn0 11) (TM.evF Try.prog (tn0) dOk (k + 40)) dOk (k + 40) (zh Try.prog (tn0 11) 11 0) 0 0 { sl := [(1, .l 1 0), (3, .v (.sc (I4 x0)))], lo := [(1, [I4 (x1), I4 (x2), I4 (x3), I4 (x4), I4 (x5), .d 51 (.list 55 QDy) (x6), I4 (x7), I4 (x8), I4 (x9), I4 (A), I4 (B), I4 (C), I4 (D), I4 (E), .int .u64 (F)])], h := [], n0 := 0, w := false } cN cX = (cond (decide (x0 < (x6.length : Int))) (cond (decide (0 ≤ x0)) (cond (decide (x0 < (x6.length : Int))) (cond (decide ((↑(List.length (List.getD x6 x0.toNat [])) : Int) > (600 : Int))) (cX .ret { sl := [(2, .v (.sc (.bool (false))))], lo := [], h := [], n0 := 0, w := true }) (cN { sl := [(1, .l 1 0), (3, .v (.sc (I4 (IntKind.wrap IntKind.i64 (x0 + (1 : Int))))))], lo := [(1, [I4 (x1), I4 (x2), I4 (x3), I4 (x4), I4 (x5), .d 51 (.list 55 QDy) (x6), I4 (x7), I4 (x8), I4 (x9), I4 (A), I4 (B), I4 (C), I4 (D), I4 (E), .int .u64 (F)])], h := [], n0 := 0, w := false })) none) none) (cX (.exit 0) { sl := [(1, .l 1 0), (5, .l 1 5)], lo := [(1, [I4 (x1), I4 (x2), I4 (x3), I4 (x4), I4 (x5), .d 51 (.list 55 QDy) (x6), I4 (x7), I4 (x8), I4 (x9), I4 (A), I4 (B), I4 (C), I4 (D), I4 (E), .int .u64 (F)])], h := [], n0 := 0, w := false })) := by kernel_rfl
theorem lLah (k m : Nat) : ∀ (n : Nat) (x0 x1 x2 x3 x4 x5 : Int) (x6 : (List (List (PKt × Int)))) (x7 x8 x9 A B C D E F : Int) (r : (Bool ⊕ Unit)), Lah n x0 x1 x2 x3 x4 x5 x6 x7 x8 x9 A B C D E F = some r → wi Try.prog (tn0 11) (TM.evF Try.prog (tn0) dOk (k + 40)) dOk (k + 40) (zh Try.prog (tn0 11) 11 0) 0 0 (n + m) { sl := [(1, .l 1 0), (3, .v (.sc (I4 x0)))], lo := [(1, [I4 (x1), I4 (x2), I4 (x3), I4 (x4), I4 (x5), .d 51 (.list 55 QDy) (x6), I4 (x7), I4 (x8), I4 (x9), I4 (A), I4 (B), I4 (C), I4 (D), I4 (E), .int .u64 (F)])], h := [], n0 := 0, w := false } = some (xLah x0 x1 x2 x3 x4 x5 x6 x7 x8 x9 A B C D E F r) := by
 intro n
 induction n with
 | zero => intro _ _ _ _ _ _ _ _ _ _ _ _ _ _ _ _ r h; cases h
 | succ n ih =>
  intro x0 x1 x2 x3 x4 x5 x6 x7 x8 x9 A B C D E F r
  rw [show n + 1 + m = n + m + 1 by omega, xt, bLah, qLah]
  cases (decide (x0 < (x6.length : Int))) with
  | true =>
   cases (decide (0 ≤ x0)) with
   | true =>
    cases (decide ((↑(List.length (List.getD x6 x0.toNat [])) : Int) > (600 : Int))) with
    | true =>
     intro h; cases h; rfl
    | false =>
     exact ih _ _ _ _ _ _ _ _ _ _ _ _ _ _ _ _ r
   | false =>
    intro h; cases h
  | false =>
   intro h; cases h; rfl
noncomputable def sLah : TellS := fun S => dCS 0 S fun y1 y2 y3 => dSt 1 y1 fun y5 l4 => dL 1 0 y5 <| dSI 3 .i64 l4 fun x0 l6 => dE l6 <| dLo 1 y2 fun y7 l8 => dK y7 fun x1 l9 => dK l9 fun x2 l10 => dK l10 fun x3 l11 => dK l11 fun x4 l12 => dK l12 fun x5 l13 => dC l13 fun y14 l15 => dD 51 (.list 55 QDy) y14 fun x6 => dK l15 fun x7 l16 => dK l16 fun x8 l17 => dK l17 fun x9 l18 => dK l18 fun A l19 => dK l19 fun B l20 => dK l20 fun C l21 => dK l21 fun D l22 => dK l22 fun E l23 => dCI .u64 l23 fun F l24 => dE l24 <| dE l8 <| dE y3 <|  some [(isL (Lah FU x0 x1 x2 x3 x4 x5 x6 x7 x8 x9 A B C D E F), .ret, { sl := [(2, .v (.sc (.bool ((zb (Lah FU x0 x1 x2 x3 x4 x5 x6 x7 x8 x9 A B C D E F))))))], lo := [], h := [], n0 := 0, w := true }), (ok (za (Lah FU x0 x1 x2 x3 x4 x5 x6 x7 x8 x9 A B C D E F)), (.exit 0), { sl := [(1, .l 1 0), (5, .l 1 5)], lo := [(1, [I4 (x1), I4 (x2), I4 (x3), I4 (x4), I4 (x5), .d 51 (.list 55 QDy) (x6), I4 (x7), I4 (x8), I4 (x9), I4 (A), I4 (B), I4 (C), I4 (D), I4 (E), .int .u64 (F)])], h := [], n0 := 0, w := false })]
theorem wLah : zG Try.prog dOk base o0 t0 ((11, 0), sLah) := by
 refine ⟨.loop (zh Try.prog (tn0 11) 11 0), 0, by kernel_rfl, ?_⟩
 intro S alts e S' h10 h2
 have h1 : sLah S = some alts := h10
 clear h10
 unfold sLah at h1
 obtain ⟨_, _, _, rfl, g1⟩ := yN h1
 obtain ⟨_, _, rfl, g2⟩ := zd g1
 obtain ⟨rfl, g3⟩ := dLq g2
 obtain ⟨_, _, rfl, g4⟩ := xp g3
 obtain ⟨rfl, g5⟩ := dEq g4
 obtain ⟨_, _, rfl, g6⟩ := zQ g5
 obtain ⟨_, _, _, _, _, _, rfl, g7⟩ := dJ5 g6
 obtain ⟨_, _, rfl, g8⟩ := dCq g7
 obtain ⟨_, rfl, g9⟩ := dDq g8
 obtain ⟨_, _, _, _, _, _, _, _, _, _, rfl, g10⟩ := dJ9 g9
 obtain ⟨rfl, g11⟩ := dEq g10
 obtain ⟨rfl, g12⟩ := dEq g11
 obtain ⟨rfl, g13⟩ := dEq g12
 cases g13
 rcases yq h2 with ⟨hc0, rfl, rfl⟩ | h2
 · exact ⟨FU + 40, (zD rfl).trans (lLah FU 40 FU _ _ _ _ _ _ _ _ _ _ _ _ _ _ _ _ _ (yO hc0))⟩
 obtain ⟨hc1, rfl, rfl⟩ := zH h2
 exact ⟨FU + 40, (zD rfl).trans (lLah FU 40 FU _ _ _ _ _ _ _ _ _ _ _ _ _ _ _ _ _ (yp (zk hc1)))⟩
noncomputable def o1 : OrcT := o0
noncomputable def t1 : TellT := ((11, 0), sLah) :: t0
noncomputable abbrev tn1 : FuncId → TAn := zj base o1 t1
theorem ok1 : TnOk Try.prog tn1 (mkA base) dOk := by
 have h0 : TnOk Try.prog (tn0) (mkA base) dOk := ok0
 have h1 := zK h0 h0 (p := ((11, 0), sLah)) wLah
 exact h1
noncomputable def v11 (x0 x1 x2 x3 x4 : Int) (x5 : (List (List (PKt × Int)))) (x6 x7 x8 x9 A B C D E : Int) : Option Bool := (cond (isL (Lah FU 0 x0 x1 x2 x3 x4 x5 x6 x7 x8 x9 A B C D E)) (some (zb (Lah FU 0 x0 x1 x2 x3 x4 x5 x6 x7 x8 x9 A B C D E))) (cond (ok (za (Lah FU 0 x0 x1 x2 x3 x4 x5 x6 x7 x8 x9 A B C D E))) (some (decide ((x5.length : Int) ≤ (20 : Int)))) none))
theorem ev11 (x0 x1 x2 x3 x4 : Int) (x5 : (List (List (PKt × Int)))) (x6 x7 x8 x9 A B C D E : Int) : zJ Try.prog (tn1 11) (TM.evF Try.prog (tn1) dOk 40) dOk 40 11 [.agg [I4 (x0), I4 (x1), I4 (x2), I4 (x3), I4 (x4), .d 51 (.list 55 QDy) (x5), I4 (x6), I4 (x7), I4 (x8), I4 (x9), I4 (A), I4 (B), I4 (C), I4 (D), .int .u64 (E)]] [] = (v11 x0 x1 x2 x3 x4 x5 x6 x7 x8 x9 A B C D E).bind fun r => some ([.sc (.bool (r))], []) := by
 refine Eq.trans (b := (cond (isL (Lah FU 0 x0 x1 x2 x3 x4 x5 x6 x7 x8 x9 A B C D E)) (some ([.sc (.bool (zb (Lah FU 0 x0 x1 x2 x3 x4 x5 x6 x7 x8 x9 A B C D E)))], [])) (cond (ok (za (Lah FU 0 x0 x1 x2 x3 x4 x5 x6 x7 x8 x9 A B C D E))) (some ([.sc (.bool (decide ((x5.length : Int) ≤ (20 : Int))))], [])) none))) (by kernel_rfl) ?_
 unfold v11
 refine zc ?_ ?_
 rfl
 refine zc ?_ ?_
 rfl
 rfl
noncomputable def sv11 : OrcS := fun al H => dC al fun y1 l2 => dA y1 fun y3 => dK y3 fun x0 l4 => dK l4 fun x1 l5 => dK l5 fun x2 l6 => dK l6 fun x3 l7 => dK l7 fun x4 l8 => dC l8 fun y9 l10 => dD 51 (.list 55 QDy) y9 fun x5 => dK l10 fun x6 l11 => dK l11 fun x7 l12 => dK l12 fun x8 l13 => dK l13 fun x9 l14 => dK l14 fun A l15 => dK l15 fun B l16 => dK l16 fun C l17 => dK l17 fun D l18 => dCI .u64 l18 fun E l19 => dE l19 <| dE l2 <| dE H <|  some [(ok (v11 x0 x1 x2 x3 x4 x5 x6 x7 x8 x9 A B C D E), [.sc (.bool ((val (v11 x0 x1 x2 x3 x4 x5 x6 x7 x8 x9 A B C D E))))], [])]
theorem wv11 : zI Try.prog dOk base o1 t1 (11, sv11) := by
 intro al H q hq0 rs H2 h2
 have hq : sv11 al H = some q := hq0
 clear hq0
 unfold sv11 at hq
 obtain ⟨_, _, rfl, g1⟩ := dCq hq
 obtain ⟨_, rfl, g2⟩ := dAq g1
 obtain ⟨_, _, _, _, _, _, rfl, g3⟩ := dJ5 g2
 obtain ⟨_, _, rfl, g4⟩ := dCq g3
 obtain ⟨_, rfl, g5⟩ := dDq g4
 obtain ⟨_, _, _, _, _, _, _, _, _, _, rfl, g6⟩ := dJ9 g5
 obtain ⟨rfl, g7⟩ := dEq g6
 obtain ⟨rfl, g8⟩ := dEq g7
 obtain ⟨rfl, g9⟩ := dEq g8
 cases g9
 obtain ⟨hc0, rfl, rfl⟩ := zq h2
 exact ⟨41, (zW (by kernel_rfl)).trans ((ev11 _ _ _ _ _ _ _ _ _ _ _ _ _ _ _).trans (zE (zk hc0)))⟩
noncomputable def o2 : OrcT := (11, sv11) :: o1
noncomputable def t2 : TellT := t1
noncomputable abbrev tn2 : FuncId → TAn := zj base o2 t2
theorem ok2 : TnOk Try.prog tn2 (mkA base) dOk := by
 have h0 : TnOk Try.prog (tn1) (mkA base) dOk := ok1
 have h1 := zM h0 h0 (p := (11, sv11)) wv11
 exact h1
noncomputable def v39 (x0 x1 x2 : Int) : Option Bool := (cond (decide (x1 ≤ x0)) (some (decide (x0 ≤ x2))) (some (false)))
theorem ev39 (x0 x1 x2 : Int) : zJ Try.prog (tn2 39) (TM.evF Try.prog (tn2) dOk 40) dOk 40 39 [.sc (I4 x0), .sc (I4 x1), .sc (I4 x2)] [] = (v39 x0 x1 x2).bind fun r => some ([.sc (.bool (r))], []) := by
 refine Eq.trans (b := (cond (decide (x1 ≤ x0)) (some ([.sc (.bool (decide (x0 ≤ x2)))], [])) (some ([.sc (.bool (false))], [])))) (by kernel_rfl) ?_
 unfold v39
 refine zc ?_ ?_
 rfl
 rfl
noncomputable def sv39 : OrcS := fun al H => dC al fun y1 l2 => dS y1 fun y3 => yX .i64 y3 fun x0 => dC l2 fun y4 l5 => dS y4 fun y6 => yX .i64 y6 fun x1 => dC l5 fun y7 l8 => dS y7 fun y9 => yX .i64 y9 fun x2 => dE l8 <| dE H <|  some [(ok (v39 x0 x1 x2), [.sc (.bool ((val (v39 x0 x1 x2))))], [])]
theorem wv39 : zI Try.prog dOk base o2 t2 (39, sv39) := by
 intro al H q hq0 rs H2 h2
 have hq : sv39 al H = some q := hq0
 clear hq0
 unfold sv39 at hq
 obtain ⟨_, _, rfl, g1⟩ := dCq hq
 obtain ⟨_, rfl, g2⟩ := dSq g1
 obtain ⟨_, rfl, g3⟩ := yS g2
 obtain ⟨_, _, rfl, g4⟩ := dCq g3
 obtain ⟨_, rfl, g5⟩ := dSq g4
 obtain ⟨_, rfl, g6⟩ := yS g5
 obtain ⟨_, _, rfl, g7⟩ := dCq g6
 obtain ⟨_, rfl, g8⟩ := dSq g7
 obtain ⟨_, rfl, g9⟩ := yS g8
 obtain ⟨rfl, g10⟩ := dEq g9
 obtain ⟨rfl, g11⟩ := dEq g10
 cases g11
 obtain ⟨hc0, rfl, rfl⟩ := zq h2
 exact ⟨41, (zW (by kernel_rfl)).trans ((ev39 _ _ _).trans (zE (zk hc0)))⟩
noncomputable def o3 : OrcT := (39, sv39) :: o2
noncomputable def t3 : TellT := t2
noncomputable abbrev tn3 : FuncId → TAn := zj base o3 t3
theorem ok3 : TnOk Try.prog tn3 (mkA base) dOk := by
 have h0 : TnOk Try.prog (tn2) (mkA base) dOk := ok2
 have h1 := zM h0 h0 (p := (39, sv39)) wv39
 exact h1
noncomputable def v40 (x0 : Int) : Option Bool := (cond (ok (v39 x0 0 (10000000 : Int))) (some (val (v39 x0 0 (10000000 : Int)))) none)
theorem ev40 (x0 : Int) : zJ Try.prog (tn3 40) (TM.evF Try.prog (tn3) dOk 40) dOk 40 40 [.sc (I4 x0)] [] = (v40 x0).bind fun r => some ([.sc (.bool (r))], []) := by
 refine Eq.trans (b := (cond (ok (v39 x0 0 (10000000 : Int))) (some ([.sc (.bool (val (v39 x0 0 (10000000 : Int))))], [])) none)) (by kernel_rfl) ?_
 unfold v40
 refine zc ?_ ?_
 rfl
 rfl
noncomputable def sv40 : OrcS := fun al H => dC al fun y1 l2 => dS y1 fun y3 => yX .i64 y3 fun x0 => dE l2 <| dE H <|  some [(ok (v40 x0), [.sc (.bool ((val (v40 x0))))], [])]
theorem wv40 : zI Try.prog dOk base o3 t3 (40, sv40) := by
 intro al H q hq0 rs H2 h2
 have hq : sv40 al H = some q := hq0
 clear hq0
 unfold sv40 at hq
 obtain ⟨_, _, rfl, g1⟩ := dCq hq
 obtain ⟨_, rfl, g2⟩ := dSq g1
 obtain ⟨_, rfl, g3⟩ := yS g2
 obtain ⟨rfl, g4⟩ := dEq g3
 obtain ⟨rfl, g5⟩ := dEq g4
 cases g5
 obtain ⟨hc0, rfl, rfl⟩ := zq h2
 exact ⟨41, (zW (by kernel_rfl)).trans ((ev40 _).trans (zE (zk hc0)))⟩
noncomputable def o4 : OrcT := (40, sv40) :: o3
noncomputable def t4 : TellT := t3
noncomputable abbrev tn4 : FuncId → TAn := zj base o4 t4
theorem ok4 : TnOk Try.prog tn4 (mkA base) dOk := by
 have h0 : TnOk Try.prog (tn3) (mkA base) dOk := ok3
 have h1 := zM h0 h0 (p := (40, sv40)) wv40
 exact h1
noncomputable def v31 (x0 x1 x2 x3 x4 x5 : Int) (x6 : Bool) (x7 : Bool) : Option Bool := (cond (ok (v39 x0 0 (7 : Int))) (cond (val (v39 x0 0 (7 : Int))) (cond (ok (v39 x1 0 (3 : Int))) (cond (val (v39 x1 0 (3 : Int))) (cond (ok (v39 x2 0 (1000000000 : Int))) (cond (val (v39 x2 0 (1000000000 : Int))) (cond (ok (v39 x3 0 (1000000000 : Int))) (cond (val (v39 x3 0 (1000000000 : Int))) (cond (ok (v39 x4 (1 : Int) (10000 : Int))) (cond (val (v39 x4 (1 : Int) (10000 : Int))) (cond (ok (v40 x5)) (some (val (v40 x5))) none) (some (false))) none) (some (false))) none) (some (false))) none) (some (false))) none) (some (false))) none)
theorem ev31 (x0 x1 x2 x3 x4 x5 : Int) (x6 : Bool) (x7 : Bool) : zJ Try.prog (tn4 31) (TM.evF Try.prog (tn4) dOk 40) dOk 40 31 [.agg [I4 (x0), I4 (x1), I4 (x2), I4 (x3), I4 (x4), I4 (x5), .bool (x6), .bool (x7)]] [] = (v31 x0 x1 x2 x3 x4 x5 x6 x7).bind fun r => some ([.sc (.bool (r))], []) := by
 refine Eq.trans (b := (cond (ok (v39 x0 0 (7 : Int))) (cond (val (v39 x0 0 (7 : Int))) (cond (ok (v39 x1 0 (3 : Int))) (cond (val (v39 x1 0 (3 : Int))) (cond (ok (v39 x2 0 (1000000000 : Int))) (cond (val (v39 x2 0 (1000000000 : Int))) (cond (ok (v39 x3 0 (1000000000 : Int))) (cond (val (v39 x3 0 (1000000000 : Int))) (cond (ok (v39 x4 (1 : Int) (10000 : Int))) (cond (val (v39 x4 (1 : Int) (10000 : Int))) (cond (ok (v40 x5)) (some ([.sc (.bool (val (v40 x5)))], [])) none) (some ([.sc (.bool (false))], []))) none) (some ([.sc (.bool (false))], []))) none) (some ([.sc (.bool (false))], []))) none) (some ([.sc (.bool (false))], []))) none) (some ([.sc (.bool (false))], []))) none)) (by kernel_rfl) ?_
 unfold v31
 refine zc ?_ ?_
 refine zc ?_ ?_
 refine zc ?_ ?_
 refine zc ?_ ?_
 refine zc ?_ ?_
 refine zc ?_ ?_
 refine zc ?_ ?_
 refine zc ?_ ?_
 refine zc ?_ ?_
 refine zc ?_ ?_
 refine zc ?_ ?_
 rfl
 rfl
 rfl
 rfl
 rfl
 rfl
 rfl
 rfl
 rfl
 rfl
 rfl
 rfl
noncomputable def sv31 : OrcS := fun al H => dC al fun y1 l2 => dA y1 fun y3 => dK y3 fun x0 l4 => dK l4 fun x1 l5 => dK l5 fun x2 l6 => dK l6 fun x3 l7 => dK l7 fun x4 l8 => dK l8 fun x5 l9 => dC l9 fun y10 l11 => zA y10 fun x6 => dC l11 fun y12 l13 => zA y12 fun x7 => dE l13 <| dE l2 <| dE H <|  some [(ok (v31 x0 x1 x2 x3 x4 x5 x6 x7), [.sc (.bool ((val (v31 x0 x1 x2 x3 x4 x5 x6 x7))))], [])]
theorem wv31 : zI Try.prog dOk base o4 t4 (31, sv31) := by
 intro al H q hq0 rs H2 h2
 have hq : sv31 al H = some q := hq0
 clear hq0
 unfold sv31 at hq
 obtain ⟨_, _, rfl, g1⟩ := dCq hq
 obtain ⟨_, rfl, g2⟩ := dAq g1
 obtain ⟨_, _, _, _, _, _, _, rfl, g3⟩ := dJ6 g2
 obtain ⟨_, _, rfl, g4⟩ := dCq g3
 obtain ⟨_, rfl, g5⟩ := zr g4
 obtain ⟨_, _, rfl, g6⟩ := dCq g5
 obtain ⟨_, rfl, g7⟩ := zr g6
 obtain ⟨rfl, g8⟩ := dEq g7
 obtain ⟨rfl, g9⟩ := dEq g8
 obtain ⟨rfl, g10⟩ := dEq g9
 cases g10
 obtain ⟨hc0, rfl, rfl⟩ := zq h2
 exact ⟨41, (zW (by kernel_rfl)).trans ((ev31 _ _ _ _ _ _ _ _).trans (zE (zk hc0)))⟩
noncomputable def o5 : OrcT := (31, sv31) :: o4
noncomputable def t5 : TellT := t4
noncomputable abbrev tn5 : FuncId → TAn := zj base o5 t5
theorem ok5 : TnOk Try.prog tn5 (mkA base) dOk := by
 have h0 : TnOk Try.prog (tn4) (mkA base) dOk := ok4
 have h1 := zM h0 h0 (p := (31, sv31)) wv31
 exact h1
noncomputable def v42 (x0 : Int) : Option Bool := (some (x0 != 0))
theorem ev42 (x0 : Int) : zJ Try.prog (tn5 42) (TM.evF Try.prog (tn5) dOk 40) dOk 40 42 [.sc (I4 x0)] [] = (v42 x0).bind fun r => some ([.sc (.bool (r))], []) := by
 refine Eq.trans (b := (some ([.sc (.bool (x0 != 0))], []))) (by kernel_rfl) ?_
 unfold v42
 rfl
noncomputable def sv42 : OrcS := fun al H => dC al fun y1 l2 => dS y1 fun y3 => yX .i64 y3 fun x0 => dE l2 <| dE H <|  some [(ok (v42 x0), [.sc (.bool ((val (v42 x0))))], [])]
theorem wv42 : zI Try.prog dOk base o5 t5 (42, sv42) := by
 intro al H q hq0 rs H2 h2
 have hq : sv42 al H = some q := hq0
 clear hq0
 unfold sv42 at hq
 obtain ⟨_, _, rfl, g1⟩ := dCq hq
 obtain ⟨_, rfl, g2⟩ := dSq g1
 obtain ⟨_, rfl, g3⟩ := yS g2
 obtain ⟨rfl, g4⟩ := dEq g3
 obtain ⟨rfl, g5⟩ := dEq g4
 cases g5
 obtain ⟨hc0, rfl, rfl⟩ := zq h2
 exact ⟨41, (zW (by kernel_rfl)).trans ((ev42 _).trans (zE (zk hc0)))⟩
noncomputable def o6 : OrcT := (42, sv42) :: o5
noncomputable def t6 : TellT := t5
noncomputable abbrev tn6 : FuncId → TAn := zj base o6 t6
theorem ok6 : TnOk Try.prog tn6 (mkA base) dOk := by
 have h0 : TnOk Try.prog (tn5) (mkA base) dOk := ok5
 have h1 := zM h0 h0 (p := (42, sv42)) wv42
 exact h1
noncomputable def Lak : Nat → (List Int) → Int → Int → Option (Int ⊕ Unit)
 | 0, _, _, _ => none
 | n + 1, x0, x1, x2 => (cond (decide (x2 < x1)) (cond (decide (0 ≤ x2)) (cond (decide (x2 < (x0.length : Int))) (cond (val (v42 (List.getD x0 x2.toNat 0))) (some (.inl x2)) (Lak n x0 x1 (IntKind.wrap IntKind.i64 (x2 + (1 : Int))))) none) none) (some (.inr ())))
theorem qLak : type_of% @Lak.eq_2 := @Lak.eq_2
noncomputable def xLak (x0 : (List Int)) (x1 x2 : Int) : (Int ⊕ Unit) → Ex × CS := fun r => match r with | .inl a0 => (.ret, { sl := [(4, .v (.sc (I4 (a0))))], lo := [], h := [], n0 := 0, w := true }) | .inr b0 => ((.exit 0), { sl := [], lo := [], h := [], n0 := 0, w := false })
theorem bLak (k : Nat) (cN : CS → Option (Ex × CS)) (cX : Ex → CS → Option (Ex × CS)) (x0 : (List Int)) (x1 x2 : Int) : xl Try.prog (tn6 45) (TM.evF Try.prog (tn6) dOk (k + 40)) dOk (k + 40) (zh Try.prog (tn0 45) 45 0) 0 0 { sl := [(0, .v (.sc (.d 3 (.int .i64) x0))), (1, .v (.sc (.fn 42 0 [] []))), (7, .v (.sc (I4 x1))), (8, .v (.sc (I4 x2)))], lo := [], h := [], n0 := 0, w := false } cN cX = (cond (decide (x2 < x1)) (cond (decide (0 ≤ x2)) (cond (decide (x2 < (x0.length : Int))) (cond (val (v42 (List.getD x0 x2.toNat 0))) (cX .ret { sl := [(4, .v (.sc (I4 x2)))], lo := [], h := [], n0 := 0, w := true }) (cN { sl := [(0, .v (.sc (.d 3 (.int .i64) x0))), (1, .v (.sc (.fn 42 0 [] []))), (7, .v (.sc (I4 x1))), (8, .v (.sc (I4 (IntKind.wrap IntKind.i64 (x2 + (1 : Int))))))], lo := [], h := [], n0 := 0, w := false })) none) none) (cX (.exit 0) { sl := [], lo := [], h := [], n0 := 0, w := false })) := by kernel_rfl
theorem lLak (k m : Nat) : ∀ (n : Nat) (x0 : (List Int)) (x1 x2 : Int) (r : (Int ⊕ Unit)), Lak n x0 x1 x2 = some r → wi Try.prog (tn6 45) (TM.evF Try.prog (tn6) dOk (k + 40)) dOk (k + 40) (zh Try.prog (tn0 45) 45 0) 0 0 (n + m) { sl := [(0, .v (.sc (.d 3 (.int .i64) x0))), (1, .v (.sc (.fn 42 0 [] []))), (7, .v (.sc (I4 x1))), (8, .v (.sc (I4 x2)))], lo := [], h := [], n0 := 0, w := false } = some (xLak x0 x1 x2 r) := by
 intro n
 induction n with
 | zero => intro _ _ _ r h; cases h
 | succ n ih =>
  intro x0 x1 x2 r
  rw [show n + 1 + m = n + m + 1 by omega, xt, bLak, qLak]
  refine ze ?_ ?_
  refine ze ?_ ?_
  refine ze ?_ ?_
  refine ze ?_ ?_
  intro h; cases h; rfl
  exact ih _ _ _ r
  intro h; cases h
  intro h; cases h
  intro h; cases h; rfl
noncomputable def sLak : TellS := fun S => dCS 0 S fun y1 y2 y3 => dSs 0 y1 fun y5 l4 => dD 3 (.int .i64) y5 fun x0 => dSs 1 l4 fun y7 l6 => dFn 42 0 [] y7 fun y8 => dE y8 <| dSI 7 .i64 l6 fun x1 l9 => dSI 8 .i64 l9 fun x2 l10 => dE l10 <| dE y2 <| dE y3 <|  some [(isL (Lak FU x0 x1 x2), .ret, { sl := [(4, .v (.sc (I4 ((zb (Lak FU x0 x1 x2))))))], lo := [], h := [], n0 := 0, w := true }), (ok (za (Lak FU x0 x1 x2)), (.exit 0), { sl := [], lo := [], h := [], n0 := 0, w := false })]
theorem wLak : zG Try.prog dOk base o6 t6 ((45, 0), sLak) := by
 refine ⟨.loop (zh Try.prog (tn0 45) 45 0), 0, by kernel_rfl, ?_⟩
 intro S alts e S' h10 h2
 have h1 : sLak S = some alts := h10
 clear h10
 unfold sLak at h1
 obtain ⟨_, _, _, rfl, g1⟩ := yN h1
 obtain ⟨_, _, rfl, g2⟩ := yf g1
 obtain ⟨_, rfl, g3⟩ := dDq g2
 obtain ⟨_, _, rfl, g4⟩ := yf g3
 obtain ⟨_, rfl, g5⟩ := Tf g4
 obtain ⟨rfl, g6⟩ := dEq g5
 obtain ⟨_, _, rfl, g7⟩ := xp g6
 obtain ⟨_, _, rfl, g8⟩ := xp g7
 obtain ⟨rfl, g9⟩ := dEq g8
 obtain ⟨rfl, g10⟩ := dEq g9
 obtain ⟨rfl, g11⟩ := dEq g10
 cases g11
 rcases yq h2 with ⟨hc0, rfl, rfl⟩ | h2
 · exact ⟨FU + 40, (zD rfl).trans (lLak FU 40 FU _ _ _ _ (yO hc0))⟩
 obtain ⟨hc1, rfl, rfl⟩ := zH h2
 exact ⟨FU + 40, (zD rfl).trans (lLak FU 40 FU _ _ _ _ (yp (zk hc1)))⟩
noncomputable def o7 : OrcT := o6
noncomputable def t7 : TellT := ((45, 0), sLak) :: t6
noncomputable abbrev tn7 : FuncId → TAn := zj base o7 t7
theorem ok7 : TnOk Try.prog tn7 (mkA base) dOk := by
 have h0 : TnOk Try.prog (tn6) (mkA base) dOk := ok6
 have h1 := zK h0 h0 (p := ((45, 0), sLak)) wLak
 exact h1
noncomputable def v45 (x0 : (List Int)) : Option Int := (cond (isL (Lak FU x0 (x0.length : Int) 0)) (some (zb (Lak FU x0 (x0.length : Int) 0))) (cond (ok (za (Lak FU x0 (x0.length : Int) 0))) (some ((-1 : Int))) none))
theorem ev45 (x0 : (List Int)) : zJ Try.prog (tn7 45) (TM.evF Try.prog (tn7) dOk 40) dOk 40 45 [.sc (.d 3 (.int .i64) x0), .sc (.fn 42 0 [] [])] [] = (v45 x0).bind fun r => some ([.sc (I4 (r))], []) := by
 refine Eq.trans (b := (cond (isL (Lak FU x0 (x0.length : Int) 0)) (some ([.sc (I4 (zb (Lak FU x0 (x0.length : Int) 0)))], [])) (cond (ok (za (Lak FU x0 (x0.length : Int) 0))) (some ([.sc (I4 ((-1 : Int)))], [])) none))) (by kernel_rfl) ?_
 unfold v45
 refine zc ?_ ?_
 rfl
 refine zc ?_ ?_
 rfl
 rfl
noncomputable def sv45 : OrcS := fun al H => dC al fun y1 l2 => dS y1 fun y3 => dD 3 (.int .i64) y3 fun x0 => dC l2 fun y4 l5 => dS y4 fun y6 => dFn 42 0 [] y6 fun y7 => dE y7 <| dE l5 <| dE H <|  some [(ok (v45 x0), [.sc (I4 ((val (v45 x0))))], [])]
theorem wv45 : zI Try.prog dOk base o7 t7 (45, sv45) := by
 intro al H q hq0 rs H2 h2
 have hq : sv45 al H = some q := hq0
 clear hq0
 unfold sv45 at hq
 obtain ⟨_, _, rfl, g1⟩ := dCq hq
 obtain ⟨_, rfl, g2⟩ := dSq g1
 obtain ⟨_, rfl, g3⟩ := dDq g2
 obtain ⟨_, _, rfl, g4⟩ := dCq g3
 obtain ⟨_, rfl, g5⟩ := dSq g4
 obtain ⟨_, rfl, g6⟩ := Tf g5
 obtain ⟨rfl, g7⟩ := dEq g6
 obtain ⟨rfl, g8⟩ := dEq g7
 obtain ⟨rfl, g9⟩ := dEq g8
 cases g9
 obtain ⟨hc0, rfl, rfl⟩ := zq h2
 exact ⟨41, (zW (by kernel_rfl)).trans ((ev45 _).trans (zE (zk hc0)))⟩
noncomputable def o8 : OrcT := (45, sv45) :: o7
noncomputable def t8 : TellT := t7
noncomputable abbrev tn8 : FuncId → TAn := zj base o8 t8
theorem ok8 : TnOk Try.prog tn8 (mkA base) dOk := by
 have h0 : TnOk Try.prog (tn7) (mkA base) dOk := ok7
 have h1 := zM h0 h0 (p := (45, sv45)) wv45
 exact h1
noncomputable def v41 (x0 : (List Int)) : Option Bool := (cond (ok (v45 x0)) (some (decide (val (v45 x0) ≥ 0))) none)
theorem ev41 (x0 : (List Int)) : zJ Try.prog (tn8 41) (TM.evF Try.prog (tn8) dOk 40) dOk 40 41 [.sc (.d 3 (.int .i64) x0), .sc (.fn 42 0 [] [])] [] = (v41 x0).bind fun r => some ([.sc (.bool (r))], []) := by
 refine Eq.trans (b := (cond (ok (v45 x0)) (some ([.sc (.bool (decide (val (v45 x0) ≥ 0)))], [])) none)) (by kernel_rfl) ?_
 unfold v41
 refine zc ?_ ?_
 rfl
 rfl
noncomputable def sv41 : OrcS := fun al H => dC al fun y1 l2 => dS y1 fun y3 => dD 3 (.int .i64) y3 fun x0 => dC l2 fun y4 l5 => dS y4 fun y6 => dFn 42 0 [] y6 fun y7 => dE y7 <| dE l5 <| dE H <|  some [(ok (v41 x0), [.sc (.bool ((val (v41 x0))))], [])]
theorem wv41 : zI Try.prog dOk base o8 t8 (41, sv41) := by
 intro al H q hq0 rs H2 h2
 have hq : sv41 al H = some q := hq0
 clear hq0
 unfold sv41 at hq
 obtain ⟨_, _, rfl, g1⟩ := dCq hq
 obtain ⟨_, rfl, g2⟩ := dSq g1
 obtain ⟨_, rfl, g3⟩ := dDq g2
 obtain ⟨_, _, rfl, g4⟩ := dCq g3
 obtain ⟨_, rfl, g5⟩ := dSq g4
 obtain ⟨_, rfl, g6⟩ := Tf g5
 obtain ⟨rfl, g7⟩ := dEq g6
 obtain ⟨rfl, g8⟩ := dEq g7
 obtain ⟨rfl, g9⟩ := dEq g8
 cases g9
 obtain ⟨hc0, rfl, rfl⟩ := zq h2
 exact ⟨41, (zW (by kernel_rfl)).trans ((ev41 _).trans (zE (zk hc0)))⟩
noncomputable def o9 : OrcT := (41, sv41) :: o8
noncomputable def t9 : TellT := t8
noncomputable abbrev tn9 : FuncId → TAn := zj base o9 t9
theorem ok9 : TnOk Try.prog tn9 (mkA base) dOk := by
 have h0 : TnOk Try.prog (tn8) (mkA base) dOk := ok8
 have h1 := zM h0 h0 (p := (41, sv41)) wv41
 exact h1
noncomputable def Lam : Nat → Int → (List (PKt × Int)) → Int → Int → Int → Int → Int → Int → Int → Int → Int → Int → Option (Bool ⊕ Unit)
 | 0, _, _, _, _, _, _, _, _, _, _, _, _ => none
 | n + 1, x0, x1, x2, x3, x4, x5, x6, x7, x8, x9, A, B => (cond (decide (x3 < x2)) (cond (decide (0 ≤ x3)) (cond (decide (x3 < (x1.length : Int))) (cond (ok (v31 (List.getD x1 x3.toNat (PKz, (0 : Int))).1.1 (List.getD x1 x3.toNat (PKz, (0 : Int))).1.2.1 (List.getD x1 x3.toNat (PKz, (0 : Int))).1.2.2.1 (List.getD x1 x3.toNat (PKz, (0 : Int))).1.2.2.2.1 (List.getD x1 x3.toNat (PKz, (0 : Int))).1.2.2.2.2.1 (List.getD x1 x3.toNat (PKz, (0 : Int))).1.2.2.2.2.2.1 (List.getD x1 x3.toNat (PKz, (0 : Int))).1.2.2.2.2.2.2.1 (List.getD x1 x3.toNat (PKz, (0 : Int))).1.2.2.2.2.2.2.2)) (cond (!val (v31 (List.getD x1 x3.toNat (PKz, (0 : Int))).1.1 (List.getD x1 x3.toNat (PKz, (0 : Int))).1.2.1 (List.getD x1 x3.toNat (PKz, (0 : Int))).1.2.2.1 (List.getD x1 x3.toNat (PKz, (0 : Int))).1.2.2.2.1 (List.getD x1 x3.toNat (PKz, (0 : Int))).1.2.2.2.2.1 (List.getD x1 x3.toNat (PKz, (0 : Int))).1.2.2.2.2.2.1 (List.getD x1 x3.toNat (PKz, (0 : Int))).1.2.2.2.2.2.2.1 (List.getD x1 x3.toNat (PKz, (0 : Int))).1.2.2.2.2.2.2.2)) (some (.inl (false))) (cond (ok (v39 (List.getD x1 x3.toNat (PKz, (0 : Int))).2 x0 B)) (cond (!val (v39 (List.getD x1 x3.toNat (PKz, (0 : Int))).2 x0 B)) (some (.inl (false))) (Lam n (List.getD x1 x3.toNat (PKz, (0 : Int))).2 x1 x2 (IntKind.wrap IntKind.i64 (x3 + (1 : Int))) x4 x5 x6 x7 x8 x9 A B)) none)) none) none) none) (some (.inr ())))
theorem qLam : type_of% @Lam.eq_2 := @Lam.eq_2
noncomputable def xLam (x0 : Int) (x1 : (List (PKt × Int))) (x2 x3 x4 x5 x6 x7 x8 x9 A B : Int) : (Bool ⊕ Unit) → Ex × CS := fun r => match r with | .inl a0 => (.ret, { sl := [(2, .v (.sc (.bool (a0))))], lo := [], h := [], n0 := 0, w := true }) | .inr b0 => ((.exit 0), { sl := [], lo := [], h := [], n0 := 0, w := false })
theorem bLam (k : Nat) (cN : CS → Option (Ex × CS)) (cX : Ex → CS → Option (Ex × CS)) (x0 : Int) (x1 : (List (PKt × Int))) (x2 x3 x4 x5 x6 x7 x8 x9 A B : Int) : xl Try.prog (tn9 18) (TM.evF Try.prog (tn9) dOk (k + 40)) dOk (k + 40) (zh Try.prog (tn0 18) 18 0) 0 0 { sl := [(4, .v (.sc (.ptr 0 0))), (5, .v (.sc (I4 x0))), (96, .v (.sc (.d 55 QDy x1))), (97, .v (.sc (I4 x2))), (98, .v (.sc (I4 x3)))], lo := [], h := [.box 25 [I4 (x4), I4 (x5), I4 (x6), I4 (x7), I4 (x8), I4 (x9), I4 (A), I4 (B)]], n0 := 0, w := false } cN cX = (cond (decide (x3 < x2)) (cond (decide (0 ≤ x3)) (cond (decide (x3 < (x1.length : Int))) (cond (ok (v31 (List.getD x1 x3.toNat (PKz, (0 : Int))).1.1 (List.getD x1 x3.toNat (PKz, (0 : Int))).1.2.1 (List.getD x1 x3.toNat (PKz, (0 : Int))).1.2.2.1 (List.getD x1 x3.toNat (PKz, (0 : Int))).1.2.2.2.1 (List.getD x1 x3.toNat (PKz, (0 : Int))).1.2.2.2.2.1 (List.getD x1 x3.toNat (PKz, (0 : Int))).1.2.2.2.2.2.1 (List.getD x1 x3.toNat (PKz, (0 : Int))).1.2.2.2.2.2.2.1 (List.getD x1 x3.toNat (PKz, (0 : Int))).1.2.2.2.2.2.2.2)) (cond (!val (v31 (List.getD x1 x3.toNat (PKz, (0 : Int))).1.1 (List.getD x1 x3.toNat (PKz, (0 : Int))).1.2.1 (List.getD x1 x3.toNat (PKz, (0 : Int))).1.2.2.1 (List.getD x1 x3.toNat (PKz, (0 : Int))).1.2.2.2.1 (List.getD x1 x3.toNat (PKz, (0 : Int))).1.2.2.2.2.1 (List.getD x1 x3.toNat (PKz, (0 : Int))).1.2.2.2.2.2.1 (List.getD x1 x3.toNat (PKz, (0 : Int))).1.2.2.2.2.2.2.1 (List.getD x1 x3.toNat (PKz, (0 : Int))).1.2.2.2.2.2.2.2)) (cX .ret { sl := [(2, .v (.sc (.bool (false))))], lo := [], h := [], n0 := 0, w := true }) (cond (ok (v39 (List.getD x1 x3.toNat (PKz, (0 : Int))).2 x0 B)) (cond (!val (v39 (List.getD x1 x3.toNat (PKz, (0 : Int))).2 x0 B)) (cX .ret { sl := [(2, .v (.sc (.bool (false))))], lo := [], h := [], n0 := 0, w := true }) (cN { sl := [(4, .v (.sc (.ptr 0 0))), (5, .v (.sc (I4 (List.getD x1 x3.toNat (PKz, (0 : Int))).2))), (96, .v (.sc (.d 55 QDy x1))), (97, .v (.sc (I4 x2))), (98, .v (.sc (I4 (IntKind.wrap IntKind.i64 (x3 + (1 : Int))))))], lo := [], h := [.box 25 [I4 (x4), I4 (x5), I4 (x6), I4 (x7), I4 (x8), I4 (x9), I4 (A), I4 (B)]], n0 := 0, w := false })) none)) none) none) none) (cX (.exit 0) { sl := [], lo := [], h := [], n0 := 0, w := false })) := by kernel_rfl
theorem lLam (k m : Nat) : ∀ (n : Nat) (x0 : Int) (x1 : (List (PKt × Int))) (x2 x3 x4 x5 x6 x7 x8 x9 A B : Int) (r : (Bool ⊕ Unit)), Lam n x0 x1 x2 x3 x4 x5 x6 x7 x8 x9 A B = some r → wi Try.prog (tn9 18) (TM.evF Try.prog (tn9) dOk (k + 40)) dOk (k + 40) (zh Try.prog (tn0 18) 18 0) 0 0 (n + m) { sl := [(4, .v (.sc (.ptr 0 0))), (5, .v (.sc (I4 x0))), (96, .v (.sc (.d 55 QDy x1))), (97, .v (.sc (I4 x2))), (98, .v (.sc (I4 x3)))], lo := [], h := [.box 25 [I4 (x4), I4 (x5), I4 (x6), I4 (x7), I4 (x8), I4 (x9), I4 (A), I4 (B)]], n0 := 0, w := false } = some (xLam x0 x1 x2 x3 x4 x5 x6 x7 x8 x9 A B r) := by
 intro n
 induction n with
 | zero => intro _ _ _ _ _ _ _ _ _ _ _ _ r h; cases h
 | succ n ih =>
  intro x0 x1 x2 x3 x4 x5 x6 x7 x8 x9 A B r
  rw [show n + 1 + m = n + m + 1 by omega, xt, bLam, qLam]
  refine ze ?_ ?_
  refine ze ?_ ?_
  refine ze ?_ ?_
  refine ze ?_ ?_
  refine ze ?_ ?_
  intro h; cases h; rfl
  refine ze ?_ ?_
  refine ze ?_ ?_
  intro h; cases h; rfl
  exact ih _ _ _ _ _ _ _ _ _ _ _ _ r
  intro h; cases h
  intro h; cases h
  intro h; cases h
  intro h; cases h
  intro h; cases h; rfl
noncomputable def sLam : TellS := fun S => dCS 0 S fun y1 y2 y3 => dSs 4 y1 fun y5 l4 => yY 0 0 y5 <| dSI 5 .i64 l4 fun x0 l6 => dSs 96 l6 fun y8 l7 => dD 55 QDy y8 fun x1 => dSI 97 .i64 l7 fun x2 l9 => dSI 98 .i64 l9 fun x3 l10 => dE l10 <| dE y2 <| dHB 25 y3 fun y12 l11 => dK y12 fun x4 l13 => dK l13 fun x5 l14 => dK l14 fun x6 l15 => dK l15 fun x7 l16 => dK l16 fun x8 l17 => dK l17 fun x9 l18 => dK l18 fun A l19 => dK l19 fun B l20 => dE l20 <| dE l11 <|  some [(isL (Lam FU x0 x1 x2 x3 x4 x5 x6 x7 x8 x9 A B), .ret, { sl := [(2, .v (.sc (.bool ((zb (Lam FU x0 x1 x2 x3 x4 x5 x6 x7 x8 x9 A B))))))], lo := [], h := [], n0 := 0, w := true }), (ok (za (Lam FU x0 x1 x2 x3 x4 x5 x6 x7 x8 x9 A B)), (.exit 0), { sl := [], lo := [], h := [], n0 := 0, w := false })]
theorem wLam : zG Try.prog dOk base o9 t9 ((18, 0), sLam) := by
 refine ⟨.loop (zh Try.prog (tn0 18) 18 0), 0, by kernel_rfl, ?_⟩
 intro S alts e S' h10 h2
 have h1 : sLam S = some alts := h10
 clear h10
 unfold sLam at h1
 obtain ⟨_, _, _, rfl, g1⟩ := yN h1
 obtain ⟨_, _, rfl, g2⟩ := yf g1
 obtain ⟨rfl, g3⟩ := yD g2
 obtain ⟨_, _, rfl, g4⟩ := xp g3
 obtain ⟨_, _, rfl, g5⟩ := yf g4
 obtain ⟨_, rfl, g6⟩ := dDq g5
 obtain ⟨_, _, rfl, g7⟩ := xp g6
 obtain ⟨_, _, rfl, g8⟩ := xp g7
 obtain ⟨rfl, g9⟩ := dEq g8
 obtain ⟨rfl, g10⟩ := dEq g9
 obtain ⟨_, _, rfl, g11⟩ := xz g10
 obtain ⟨_, _, _, _, _, _, _, _, _, rfl, g12⟩ := dJ8 g11
 obtain ⟨rfl, g13⟩ := dEq g12
 obtain ⟨rfl, g14⟩ := dEq g13
 cases g14
 rcases yq h2 with ⟨hc0, rfl, rfl⟩ | h2
 · exact ⟨FU + 40, (zD rfl).trans (lLam FU 40 FU _ _ _ _ _ _ _ _ _ _ _ _ _ (yO hc0))⟩
 obtain ⟨hc1, rfl, rfl⟩ := zH h2
 exact ⟨FU + 40, (zD rfl).trans (lLam FU 40 FU _ _ _ _ _ _ _ _ _ _ _ _ _ (yp (zk hc1)))⟩
noncomputable def o10 : OrcT := o9
noncomputable def t10 : TellT := ((18, 0), sLam) :: t9
noncomputable abbrev tn10 : FuncId → TAn := zj base o10 t10
theorem ok10 : TnOk Try.prog tn10 (mkA base) dOk := by
 have h0 : TnOk Try.prog (tn9) (mkA base) dOk := ok9
 have h1 := zK h0 h0 (p := ((18, 0), sLam)) wLam
 exact h1
noncomputable def Lau (x0 x1 x2 x3 x4 : Int) (x5 : (List (List (PKt × Int)))) (x6 x7 x8 x9 A B C D E F G I J K L M N : Int) : Option Bool := (cond (decide (0 < (x5.length : Int))) (cond (isL (Lam FU 0 (List.getD x5 (Int.toNat 0) []) (↑(List.length (List.getD x5 (Int.toNat 0) [])) : Int) 0 F G I J K L M N)) (some (zb (Lam FU 0 (List.getD x5 (Int.toNat 0) []) (↑(List.length (List.getD x5 (Int.toNat 0) [])) : Int) 0 F G I J K L M N))) (cond (ok (za (Lam FU 0 (List.getD x5 (Int.toNat 0) []) (↑(List.length (List.getD x5 (Int.toNat 0) [])) : Int) 0 F G I J K L M N))) (some (true)) none)) none)
noncomputable def xLau (x0 x1 x2 x3 x4 : Int) (x5 : (List (List (PKt × Int)))) (x6 x7 x8 x9 A B C D E F G I J K L M N : Int) : Bool → Ex × CS := fun r => (.ret, { sl := [(2, .v (.sc (.bool (r))))], lo := [], h := [], n0 := 0, w := true })
theorem bLau (k : Nat) (cX : Ex → CS → Option (Ex × CS)) (x0 x1 x2 x3 x4 : Int) (x5 : (List (List (PKt × Int)))) (x6 x7 x8 x9 A B C D E F G I J K L M N : Int) : zo Try.prog (tn10 18) (TM.evF Try.prog (tn10) dOk (k + 40)) dOk (k + 40) (zh Try.prog (tn0 18) 18 68) 0 68 { sl := [(1, .l 1 0), (3, .l 3 0), (4, .v (.sc (.ptr 0 0))), (8, .l 1 0), (10, .l 1 6), (12, .l 3 0), (16, .l 3 1), (22, .l 3 2), (28, .l 3 3), (33, .l 1 4), (39, .l 1 5), (45, .l 1 14), (58, .l 3 2), (82, .l 1 5), (87, .l 1 4)], lo := [(1, [I4 (x0), I4 (x1), I4 (x2), I4 (x3), I4 (x4), .d 51 (.list 55 QDy) (x5), I4 (x6), I4 (x7), I4 (x8), I4 (x9), I4 (A), I4 (B), I4 (C), I4 (D), .int .u64 (E)])], h := [.box 25 [I4 (F), I4 (G), I4 (I), I4 (J), I4 (K), I4 (L), I4 (M), I4 (N)]], n0 := 0, w := false } cX = (cond (decide (0 < (x5.length : Int))) (cond (isL (Lam FU 0 (List.getD x5 (Int.toNat 0) []) (↑(List.length (List.getD x5 (Int.toNat 0) [])) : Int) 0 F G I J K L M N)) (cX .ret { sl := [(2, .v (.sc (.bool (zb (Lam FU 0 (List.getD x5 (Int.toNat 0) []) (↑(List.length (List.getD x5 (Int.toNat 0) [])) : Int) 0 F G I J K L M N)))))], lo := [], h := [], n0 := 0, w := true }) (cond (ok (za (Lam FU 0 (List.getD x5 (Int.toNat 0) []) (↑(List.length (List.getD x5 (Int.toNat 0) [])) : Int) 0 F G I J K L M N))) (cX .ret { sl := [(2, .v (.sc (.bool (true))))], lo := [], h := [], n0 := 0, w := true }) none)) none) := by kernel_rfl
theorem lLau (k : Nat) (x0 x1 x2 x3 x4 : Int) (x5 : (List (List (PKt × Int)))) (x6 x7 x8 x9 A B C D E F G I J K L M N : Int) (r : Bool) : Lau x0 x1 x2 x3 x4 x5 x6 x7 x8 x9 A B C D E F G I J K L M N = some r → zo Try.prog (tn10 18) (TM.evF Try.prog (tn10) dOk (k + 40)) dOk (k + 40) (zh Try.prog (tn0 18) 18 68) 0 68 { sl := [(1, .l 1 0), (3, .l 3 0), (4, .v (.sc (.ptr 0 0))), (8, .l 1 0), (10, .l 1 6), (12, .l 3 0), (16, .l 3 1), (22, .l 3 2), (28, .l 3 3), (33, .l 1 4), (39, .l 1 5), (45, .l 1 14), (58, .l 3 2), (82, .l 1 5), (87, .l 1 4)], lo := [(1, [I4 (x0), I4 (x1), I4 (x2), I4 (x3), I4 (x4), .d 51 (.list 55 QDy) (x5), I4 (x6), I4 (x7), I4 (x8), I4 (x9), I4 (A), I4 (B), I4 (C), I4 (D), .int .u64 (E)])], h := [.box 25 [I4 (F), I4 (G), I4 (I), I4 (J), I4 (K), I4 (L), I4 (M), I4 (N)]], n0 := 0, w := false } (fun e s => some (e, s)) = some (xLau x0 x1 x2 x3 x4 x5 x6 x7 x8 x9 A B C D E F G I J K L M N r) := by
 rw [bLau]
 unfold Lau
 refine ze ?_ ?_
 refine ze ?_ ?_
 intro h; cases h; rfl
 refine ze ?_ ?_
 intro h; cases h; rfl
 intro h; cases h
 intro h; cases h
noncomputable def sLau : TellS := fun S => dCS 0 S fun y1 y2 y3 => dSt 1 y1 fun y5 l4 => dL 1 0 y5 <| dSt 3 l4 fun y7 l6 => dL 3 0 y7 <| dSs 4 l6 fun y9 l8 => yY 0 0 y9 <| dSt 8 l8 fun y11 l10 => dL 1 0 y11 <| dSt 10 l10 fun y13 l12 => dL 1 6 y13 <| dSt 12 l12 fun y15 l14 => dL 3 0 y15 <| dSt 16 l14 fun y17 l16 => dL 3 1 y17 <| dSt 22 l16 fun y19 l18 => dL 3 2 y19 <| dSt 28 l18 fun y21 l20 => dL 3 3 y21 <| dSt 33 l20 fun y23 l22 => dL 1 4 y23 <| dSt 39 l22 fun y25 l24 => dL 1 5 y25 <| dSt 45 l24 fun y27 l26 => dL 1 14 y27 <| dSt 58 l26 fun y29 l28 => dL 3 2 y29 <| dSt 82 l28 fun y31 l30 => dL 1 5 y31 <| dSt 87 l30 fun y33 l32 => dL 1 4 y33 <| dE l32 <| dLo 1 y2 fun y34 l35 => dK y34 fun x0 l36 => dK l36 fun x1 l37 => dK l37 fun x2 l38 => dK l38 fun x3 l39 => dK l39 fun x4 l40 => dC l40 fun y41 l42 => dD 51 (.list 55 QDy) y41 fun x5 => dK l42 fun x6 l43 => dK l43 fun x7 l44 => dK l44 fun x8 l45 => dK l45 fun x9 l46 => dK l46 fun A l47 => dK l47 fun B l48 => dK l48 fun C l49 => dK l49 fun D l50 => dCI .u64 l50 fun E l51 => dE l51 <| dE l35 <| dHB 25 y3 fun y53 l52 => dK y53 fun F l54 => dK l54 fun G l55 => dK l55 fun I l56 => dK l56 fun J l57 => dK l57 fun K l58 => dK l58 fun L l59 => dK l59 fun M l60 => dK l60 fun N l61 => dE l61 <| dE l52 <|  some [(ok (Lau x0 x1 x2 x3 x4 x5 x6 x7 x8 x9 A B C D E F G I J K L M N), .ret, { sl := [(2, .v (.sc (.bool ((val (Lau x0 x1 x2 x3 x4 x5 x6 x7 x8 x9 A B C D E F G I J K L M N))))))], lo := [], h := [], n0 := 0, w := true })]
theorem wLau : zG Try.prog dOk base o10 t10 ((18, 68), sLau) := by
 refine ⟨(zh Try.prog (tn0 18) 18 68), 0, by kernel_rfl, ?_⟩
 intro S alts e S' h10 h2
 have h1 : sLau S = some alts := h10
 clear h10
 unfold sLau at h1
 replace h1 := yN h1; obtain ⟨_, _, _, rfl, h1⟩ := h1
 replace h1 := zd h1; obtain ⟨_, _, rfl, h1⟩ := h1
 replace h1 := dLq h1; obtain ⟨rfl, h1⟩ := h1
 replace h1 := zd h1; obtain ⟨_, _, rfl, h1⟩ := h1
 replace h1 := dLq h1; obtain ⟨rfl, h1⟩ := h1
 replace h1 := yf h1; obtain ⟨_, _, rfl, h1⟩ := h1
 replace h1 := yD h1; obtain ⟨rfl, h1⟩ := h1
 replace h1 := zd h1; obtain ⟨_, _, rfl, h1⟩ := h1
 replace h1 := dLq h1; obtain ⟨rfl, h1⟩ := h1
 replace h1 := zd h1; obtain ⟨_, _, rfl, h1⟩ := h1
 replace h1 := dLq h1; obtain ⟨rfl, h1⟩ := h1
 replace h1 := zd h1; obtain ⟨_, _, rfl, h1⟩ := h1
 replace h1 := dLq h1; obtain ⟨rfl, h1⟩ := h1
 replace h1 := zd h1; obtain ⟨_, _, rfl, h1⟩ := h1
 replace h1 := dLq h1; obtain ⟨rfl, h1⟩ := h1
 replace h1 := zd h1; obtain ⟨_, _, rfl, h1⟩ := h1
 replace h1 := dLq h1; obtain ⟨rfl, h1⟩ := h1
 replace h1 := zd h1; obtain ⟨_, _, rfl, h1⟩ := h1
 replace h1 := dLq h1; obtain ⟨rfl, h1⟩ := h1
 replace h1 := zd h1; obtain ⟨_, _, rfl, h1⟩ := h1
 replace h1 := dLq h1; obtain ⟨rfl, h1⟩ := h1
 replace h1 := zd h1; obtain ⟨_, _, rfl, h1⟩ := h1
 replace h1 := dLq h1; obtain ⟨rfl, h1⟩ := h1
 replace h1 := zd h1; obtain ⟨_, _, rfl, h1⟩ := h1
 replace h1 := dLq h1; obtain ⟨rfl, h1⟩ := h1
 replace h1 := zd h1; obtain ⟨_, _, rfl, h1⟩ := h1
 replace h1 := dLq h1; obtain ⟨rfl, h1⟩ := h1
 replace h1 := zd h1; obtain ⟨_, _, rfl, h1⟩ := h1
 replace h1 := dLq h1; obtain ⟨rfl, h1⟩ := h1
 replace h1 := zd h1; obtain ⟨_, _, rfl, h1⟩ := h1
 replace h1 := dLq h1; obtain ⟨rfl, h1⟩ := h1
 replace h1 := dEq h1; obtain ⟨rfl, h1⟩ := h1
 replace h1 := zQ h1; obtain ⟨_, _, rfl, h1⟩ := h1
 replace h1 := dJ5 h1; obtain ⟨_, _, _, _, _, _, rfl, h1⟩ := h1
 replace h1 := dCq h1; obtain ⟨_, _, rfl, h1⟩ := h1
 replace h1 := dDq h1; obtain ⟨_, rfl, h1⟩ := h1
 replace h1 := dJ9 h1; obtain ⟨_, _, _, _, _, _, _, _, _, _, rfl, h1⟩ := h1
 replace h1 := dEq h1; obtain ⟨rfl, h1⟩ := h1
 replace h1 := dEq h1; obtain ⟨rfl, h1⟩ := h1
 replace h1 := xz h1; obtain ⟨_, _, rfl, h1⟩ := h1
 replace h1 := dJ8 h1; obtain ⟨_, _, _, _, _, _, _, _, _, rfl, h1⟩ := h1
 replace h1 := dEq h1; obtain ⟨rfl, h1⟩ := h1
 replace h1 := dEq h1; obtain ⟨rfl, h1⟩ := h1
 cases h1
 obtain ⟨hc0, rfl, rfl⟩ := zH h2
 exact ⟨0 + 40, (zy rfl).trans (lLau 0 _ _ _ _ _ _ _ _ _ _ _ _ _ _ _ _ _ _ _ _ _ _ _ _ (zk hc0))⟩
noncomputable def o11 : OrcT := o10
noncomputable def t11 : TellT := ((18, 68), sLau) :: t10
noncomputable abbrev tn11 : FuncId → TAn := zj base o11 t11
theorem ok11 : TnOk Try.prog tn11 (mkA base) dOk := by
 have h0 : TnOk Try.prog (tn10) (mkA base) dOk := ok10
 have h1 := zK h0 h0 (p := ((18, 68), sLau)) wLau
 exact h1
noncomputable def Lap (x0 x1 x2 x3 x4 : Int) (x5 : (List (List (PKt × Int)))) (x6 x7 x8 x9 A B C D E F G I J K L M N : Int) : Option Bool := (cond (ok (v41 [I, J, K, L, M])) (cond (val (v41 [I, J, K, L, M])) (some (false)) (cond (ok (Lau x0 x1 x2 x3 x4 x5 x6 x7 x8 x9 A B C D E F G I J K L M N)) (some (val (Lau x0 x1 x2 x3 x4 x5 x6 x7 x8 x9 A B C D E F G I J K L M N))) none)) none)
noncomputable def xLap (x0 x1 x2 x3 x4 : Int) (x5 : (List (List (PKt × Int)))) (x6 x7 x8 x9 A B C D E F G I J K L M N : Int) : Bool → Ex × CS := fun r => (.ret, { sl := [(2, .v (.sc (.bool (r))))], lo := [], h := [], n0 := 0, w := true })
theorem bLap (k : Nat) (cX : Ex → CS → Option (Ex × CS)) (x0 x1 x2 x3 x4 : Int) (x5 : (List (List (PKt × Int)))) (x6 x7 x8 x9 A B C D E F G I J K L M N : Int) : zo Try.prog (tn11 18) (TM.evF Try.prog (tn11) dOk (k + 40)) dOk (k + 40) (zh Try.prog (tn0 18) 18 52) 0 52 { sl := [(1, .l 1 0), (3, .l 3 0), (4, .v (.sc (.ptr 0 0))), (8, .l 1 0), (10, .l 1 6), (12, .l 3 0), (16, .l 3 1), (22, .l 3 2), (28, .l 3 3), (33, .l 1 4), (39, .l 1 5), (45, .l 1 14), (58, .l 3 2), (82, .l 1 5), (87, .l 1 4)], lo := [(1, [I4 (x0), I4 (x1), I4 (x2), I4 (x3), I4 (x4), .d 51 (.list 55 QDy) (x5), I4 (x6), I4 (x7), I4 (x8), I4 (x9), I4 (A), I4 (B), I4 (C), I4 (D), .int .u64 (E)])], h := [.box 25 [I4 (F), I4 (G), I4 (I), I4 (J), I4 (K), I4 (L), I4 (M), I4 (N)]], n0 := 0, w := false } cX = (cond (ok (v41 [I, J, K, L, M])) (cond (val (v41 [I, J, K, L, M])) (cX .ret { sl := [(2, .v (.sc (.bool (false))))], lo := [], h := [], n0 := 0, w := true }) (cond (ok (Lau x0 x1 x2 x3 x4 x5 x6 x7 x8 x9 A B C D E F G I J K L M N)) (cX .ret { sl := [(2, .v (.sc (.bool (val (Lau x0 x1 x2 x3 x4 x5 x6 x7 x8 x9 A B C D E F G I J K L M N)))))], lo := [], h := [], n0 := 0, w := true }) none)) none) := by kernel_rfl
theorem lLap (k : Nat) (x0 x1 x2 x3 x4 : Int) (x5 : (List (List (PKt × Int)))) (x6 x7 x8 x9 A B C D E F G I J K L M N : Int) (r : Bool) : Lap x0 x1 x2 x3 x4 x5 x6 x7 x8 x9 A B C D E F G I J K L M N = some r → zo Try.prog (tn11 18) (TM.evF Try.prog (tn11) dOk (k + 40)) dOk (k + 40) (zh Try.prog (tn0 18) 18 52) 0 52 { sl := [(1, .l 1 0), (3, .l 3 0), (4, .v (.sc (.ptr 0 0))), (8, .l 1 0), (10, .l 1 6), (12, .l 3 0), (16, .l 3 1), (22, .l 3 2), (28, .l 3 3), (33, .l 1 4), (39, .l 1 5), (45, .l 1 14), (58, .l 3 2), (82, .l 1 5), (87, .l 1 4)], lo := [(1, [I4 (x0), I4 (x1), I4 (x2), I4 (x3), I4 (x4), .d 51 (.list 55 QDy) (x5), I4 (x6), I4 (x7), I4 (x8), I4 (x9), I4 (A), I4 (B), I4 (C), I4 (D), .int .u64 (E)])], h := [.box 25 [I4 (F), I4 (G), I4 (I), I4 (J), I4 (K), I4 (L), I4 (M), I4 (N)]], n0 := 0, w := false } (fun e s => some (e, s)) = some (xLap x0 x1 x2 x3 x4 x5 x6 x7 x8 x9 A B C D E F G I J K L M N r) := by
 rw [bLap]
 unfold Lap
 refine ze ?_ ?_
 refine ze ?_ ?_
 intro h; cases h; rfl
 refine ze ?_ ?_
 intro h; cases h; rfl
 intro h; cases h
 intro h; cases h
noncomputable def sLap : TellS := fun S => dCS 0 S fun y1 y2 y3 => dSt 1 y1 fun y5 l4 => dL 1 0 y5 <| dSt 3 l4 fun y7 l6 => dL 3 0 y7 <| dSs 4 l6 fun y9 l8 => yY 0 0 y9 <| dSt 8 l8 fun y11 l10 => dL 1 0 y11 <| dSt 10 l10 fun y13 l12 => dL 1 6 y13 <| dSt 12 l12 fun y15 l14 => dL 3 0 y15 <| dSt 16 l14 fun y17 l16 => dL 3 1 y17 <| dSt 22 l16 fun y19 l18 => dL 3 2 y19 <| dSt 28 l18 fun y21 l20 => dL 3 3 y21 <| dSt 33 l20 fun y23 l22 => dL 1 4 y23 <| dSt 39 l22 fun y25 l24 => dL 1 5 y25 <| dSt 45 l24 fun y27 l26 => dL 1 14 y27 <| dSt 58 l26 fun y29 l28 => dL 3 2 y29 <| dSt 82 l28 fun y31 l30 => dL 1 5 y31 <| dSt 87 l30 fun y33 l32 => dL 1 4 y33 <| dE l32 <| dLo 1 y2 fun y34 l35 => dK y34 fun x0 l36 => dK l36 fun x1 l37 => dK l37 fun x2 l38 => dK l38 fun x3 l39 => dK l39 fun x4 l40 => dC l40 fun y41 l42 => dD 51 (.list 55 QDy) y41 fun x5 => dK l42 fun x6 l43 => dK l43 fun x7 l44 => dK l44 fun x8 l45 => dK l45 fun x9 l46 => dK l46 fun A l47 => dK l47 fun B l48 => dK l48 fun C l49 => dK l49 fun D l50 => dCI .u64 l50 fun E l51 => dE l51 <| dE l35 <| dHB 25 y3 fun y53 l52 => dK y53 fun F l54 => dK l54 fun G l55 => dK l55 fun I l56 => dK l56 fun J l57 => dK l57 fun K l58 => dK l58 fun L l59 => dK l59 fun M l60 => dK l60 fun N l61 => dE l61 <| dE l52 <|  some [(ok (Lap x0 x1 x2 x3 x4 x5 x6 x7 x8 x9 A B C D E F G I J K L M N), .ret, { sl := [(2, .v (.sc (.bool ((val (Lap x0 x1 x2 x3 x4 x5 x6 x7 x8 x9 A B C D E F G I J K L M N))))))], lo := [], h := [], n0 := 0, w := true })]
theorem wLap : zG Try.prog dOk base o11 t11 ((18, 52), sLap) := by
 refine ⟨(zh Try.prog (tn0 18) 18 52), 0, by kernel_rfl, ?_⟩
 intro S alts e S' h10 h2
 have h1 : sLap S = some alts := h10
 clear h10
 unfold sLap at h1
 replace h1 := yN h1; obtain ⟨_, _, _, rfl, h1⟩ := h1
 replace h1 := zd h1; obtain ⟨_, _, rfl, h1⟩ := h1
 replace h1 := dLq h1; obtain ⟨rfl, h1⟩ := h1
 replace h1 := zd h1; obtain ⟨_, _, rfl, h1⟩ := h1
 replace h1 := dLq h1; obtain ⟨rfl, h1⟩ := h1
 replace h1 := yf h1; obtain ⟨_, _, rfl, h1⟩ := h1
 replace h1 := yD h1; obtain ⟨rfl, h1⟩ := h1
 replace h1 := zd h1; obtain ⟨_, _, rfl, h1⟩ := h1
 replace h1 := dLq h1; obtain ⟨rfl, h1⟩ := h1
 replace h1 := zd h1; obtain ⟨_, _, rfl, h1⟩ := h1
 replace h1 := dLq h1; obtain ⟨rfl, h1⟩ := h1
 replace h1 := zd h1; obtain ⟨_, _, rfl, h1⟩ := h1
 replace h1 := dLq h1; obtain ⟨rfl, h1⟩ := h1
 replace h1 := zd h1; obtain ⟨_, _, rfl, h1⟩ := h1
 replace h1 := dLq h1; obtain ⟨rfl, h1⟩ := h1
 replace h1 := zd h1; obtain ⟨_, _, rfl, h1⟩ := h1
 replace h1 := dLq h1; obtain ⟨rfl, h1⟩ := h1
 replace h1 := zd h1; obtain ⟨_, _, rfl, h1⟩ := h1
 replace h1 := dLq h1; obtain ⟨rfl, h1⟩ := h1
 replace h1 := zd h1; obtain ⟨_, _, rfl, h1⟩ := h1
 replace h1 := dLq h1; obtain ⟨rfl, h1⟩ := h1
 replace h1 := zd h1; obtain ⟨_, _, rfl, h1⟩ := h1
 replace h1 := dLq h1; obtain ⟨rfl, h1⟩ := h1
 replace h1 := zd h1; obtain ⟨_, _, rfl, h1⟩ := h1
 replace h1 := dLq h1; obtain ⟨rfl, h1⟩ := h1
 replace h1 := zd h1; obtain ⟨_, _, rfl, h1⟩ := h1
 replace h1 := dLq h1; obtain ⟨rfl, h1⟩ := h1
 replace h1 := zd h1; obtain ⟨_, _, rfl, h1⟩ := h1
 replace h1 := dLq h1; obtain ⟨rfl, h1⟩ := h1
 replace h1 := zd h1; obtain ⟨_, _, rfl, h1⟩ := h1
 replace h1 := dLq h1; obtain ⟨rfl, h1⟩ := h1
 replace h1 := dEq h1; obtain ⟨rfl, h1⟩ := h1
 replace h1 := zQ h1; obtain ⟨_, _, rfl, h1⟩ := h1
 replace h1 := dJ5 h1; obtain ⟨_, _, _, _, _, _, rfl, h1⟩ := h1
 replace h1 := dCq h1; obtain ⟨_, _, rfl, h1⟩ := h1
 replace h1 := dDq h1; obtain ⟨_, rfl, h1⟩ := h1
 replace h1 := dJ9 h1; obtain ⟨_, _, _, _, _, _, _, _, _, _, rfl, h1⟩ := h1
 replace h1 := dEq h1; obtain ⟨rfl, h1⟩ := h1
 replace h1 := dEq h1; obtain ⟨rfl, h1⟩ := h1
 replace h1 := xz h1; obtain ⟨_, _, rfl, h1⟩ := h1
 replace h1 := dJ8 h1; obtain ⟨_, _, _, _, _, _, _, _, _, rfl, h1⟩ := h1
 replace h1 := dEq h1; obtain ⟨rfl, h1⟩ := h1
 replace h1 := dEq h1; obtain ⟨rfl, h1⟩ := h1
 cases h1
 obtain ⟨hc0, rfl, rfl⟩ := zH h2
 exact ⟨0 + 40, (zy rfl).trans (lLap 0 _ _ _ _ _ _ _ _ _ _ _ _ _ _ _ _ _ _ _ _ _ _ _ _ (zk hc0))⟩
noncomputable def o12 : OrcT := o11
noncomputable def t12 : TellT := ((18, 52), sLap) :: t11
noncomputable abbrev tn12 : FuncId → TAn := zj base o12 t12
theorem ok12 : TnOk Try.prog tn12 (mkA base) dOk := by
 have h0 : TnOk Try.prog (tn11) (mkA base) dOk := ok11
 have h1 := zK h0 h0 (p := ((18, 52), sLap)) wLap
 exact h1
noncomputable def Las (x0 x1 x2 x3 x4 : Int) (x5 : (List (List (PKt × Int)))) (x6 x7 x8 x9 A B C D E F G I J K L M N O P Q R : Int) : Option Bool := (cond (ok (v40 R)) (cond (!val (v40 R)) (some (false)) (cond (ok (v39 K 0 (IntKind.wrap IntKind.i64 (IntKind.wrap IntKind.i64 (R + I) + (1 : Int))))) (cond (!val (v39 K 0 (IntKind.wrap IntKind.i64 (IntKind.wrap IntKind.i64 (R + I) + (1 : Int))))) (some (false)) (cond (ok (v39 L 0 (1000000000 : Int))) (cond (!val (v39 L 0 (1000000000 : Int))) (some (false)) (cond (K == 0) (cond (L != 0) (some (false)) (cond (decide (0 < (x5.length : Int))) (cond (decide ((↑(List.length (List.getD x5 (Int.toNat 0) [])) : Int) > x4)) (some (false)) (cond (ok (Lap x0 x1 x2 x3 x4 x5 x6 x7 x8 x9 A B C D E K L M N O P Q R)) (some (val (Lap x0 x1 x2 x3 x4 x5 x6 x7 x8 x9 A B C D E K L M N O P Q R))) none)) none)) (cond (decide (0 < (x5.length : Int))) (cond (decide ((↑(List.length (List.getD x5 (Int.toNat 0) [])) : Int) > x4)) (some (false)) (cond (ok (Lap x0 x1 x2 x3 x4 x5 x6 x7 x8 x9 A B C D E K L M N O P Q R)) (some (val (Lap x0 x1 x2 x3 x4 x5 x6 x7 x8 x9 A B C D E K L M N O P Q R))) none)) none))) none)) none)) none)
noncomputable def xLas (x0 x1 x2 x3 x4 : Int) (x5 : (List (List (PKt × Int)))) (x6 x7 x8 x9 A B C D E F G I J K L M N O P Q R : Int) : Bool → Ex × CS := fun r => (.ret, { sl := [(2, .v (.sc (.bool (r))))], lo := [], h := [], n0 := 0, w := true })
theorem bLas (k : Nat) (cX : Ex → CS → Option (Ex × CS)) (x0 x1 x2 x3 x4 : Int) (x5 : (List (List (PKt × Int)))) (x6 x7 x8 x9 A B C D E F G I J K L M N O P Q R : Int) : zo Try.prog (tn12 18) (TM.evF Try.prog (tn12) dOk (k + 40)) dOk (k + 40) (zh Try.prog (tn0 18) 18 36) 0 36 { sl := [(1, .l 1 0), (3, .l 3 0), (4, .v (.sc (.ptr 0 0))), (8, .l 1 0), (10, .l 1 6), (12, .l 3 0), (16, .l 3 1), (22, .l 3 2), (28, .l 3 3), (33, .l 1 4), (39, .l 1 5), (45, .l 1 14)], lo := [(1, [I4 (x0), I4 (x1), I4 (x2), I4 (x3), I4 (x4), .d 51 (.list 55 QDy) (x5), I4 (x6), I4 (x7), I4 (x8), I4 (x9), I4 (A), I4 (B), I4 (C), I4 (D), .int .u64 (E)]), (3, [I4 (F), I4 (G), I4 (I), I4 (J)])], h := [.box 25 [I4 (K), I4 (L), I4 (M), I4 (N), I4 (O), I4 (P), I4 (Q), I4 (R)]], n0 := 0, w := false } cX = (cond (ok (v40 R)) (cond (!val (v40 R)) (cX .ret { sl := [(2, .v (.sc (.bool (false))))], lo := [], h := [], n0 := 0, w := true }) (cond (ok (v39 K 0 (IntKind.wrap IntKind.i64 (IntKind.wrap IntKind.i64 (R + I) + (1 : Int))))) (cond (!val (v39 K 0 (IntKind.wrap IntKind.i64 (IntKind.wrap IntKind.i64 (R + I) + (1 : Int))))) (cX .ret { sl := [(2, .v (.sc (.bool (false))))], lo := [], h := [], n0 := 0, w := true }) (cond (ok (v39 L 0 (1000000000 : Int))) (cond (!val (v39 L 0 (1000000000 : Int))) (cX .ret { sl := [(2, .v (.sc (.bool (false))))], lo := [], h := [], n0 := 0, w := true }) (cond (K == 0) (cond (L != 0) (cX .ret { sl := [(2, .v (.sc (.bool (false))))], lo := [], h := [], n0 := 0, w := true }) (cond (decide (0 < (x5.length : Int))) (cond (decide ((↑(List.length (List.getD x5 (Int.toNat 0) [])) : Int) > x4)) (cX .ret { sl := [(2, .v (.sc (.bool (false))))], lo := [], h := [], n0 := 0, w := true }) (cond (ok (Lap x0 x1 x2 x3 x4 x5 x6 x7 x8 x9 A B C D E K L M N O P Q R)) (cX .ret { sl := [(2, .v (.sc (.bool (val (Lap x0 x1 x2 x3 x4 x5 x6 x7 x8 x9 A B C D E K L M N O P Q R)))))], lo := [], h := [], n0 := 0, w := true }) none)) none)) (cond (decide (0 < (x5.length : Int))) (cond (decide ((↑(List.length (List.getD x5 (Int.toNat 0) [])) : Int) > x4)) (cX .ret { sl := [(2, .v (.sc (.bool (false))))], lo := [], h := [], n0 := 0, w := true }) (cond (ok (Lap x0 x1 x2 x3 x4 x5 x6 x7 x8 x9 A B C D E K L M N O P Q R)) (cX .ret { sl := [(2, .v (.sc (.bool (val (Lap x0 x1 x2 x3 x4 x5 x6 x7 x8 x9 A B C D E K L M N O P Q R)))))], lo := [], h := [], n0 := 0, w := true }) none)) none))) none)) none)) none) := by kernel_rfl
theorem lLas (k : Nat) (x0 x1 x2 x3 x4 : Int) (x5 : (List (List (PKt × Int)))) (x6 x7 x8 x9 A B C D E F G I J K L M N O P Q R : Int) (r : Bool) : Las x0 x1 x2 x3 x4 x5 x6 x7 x8 x9 A B C D E F G I J K L M N O P Q R = some r → zo Try.prog (tn12 18) (TM.evF Try.prog (tn12) dOk (k + 40)) dOk (k + 40) (zh Try.prog (tn0 18) 18 36) 0 36 { sl := [(1, .l 1 0), (3, .l 3 0), (4, .v (.sc (.ptr 0 0))), (8, .l 1 0), (10, .l 1 6), (12, .l 3 0), (16, .l 3 1), (22, .l 3 2), (28, .l 3 3), (33, .l 1 4), (39, .l 1 5), (45, .l 1 14)], lo := [(1, [I4 (x0), I4 (x1), I4 (x2), I4 (x3), I4 (x4), .d 51 (.list 55 QDy) (x5), I4 (x6), I4 (x7), I4 (x8), I4 (x9), I4 (A), I4 (B), I4 (C), I4 (D), .int .u64 (E)]), (3, [I4 (F), I4 (G), I4 (I), I4 (J)])], h := [.box 25 [I4 (K), I4 (L), I4 (M), I4 (N), I4 (O), I4 (P), I4 (Q), I4 (R)]], n0 := 0, w := false } (fun e s => some (e, s)) = some (xLas x0 x1 x2 x3 x4 x5 x6 x7 x8 x9 A B C D E F G I J K L M N O P Q R r) := by
 rw [bLas]
 unfold Las
 refine ze ?_ ?_
 refine ze ?_ ?_
 intro h; cases h; rfl
 refine ze ?_ ?_
 refine ze ?_ ?_
 intro h; cases h; rfl
 refine ze ?_ ?_
 refine ze ?_ ?_
 intro h; cases h; rfl
 refine ze ?_ ?_
 refine ze ?_ ?_
 intro h; cases h; rfl
 refine ze ?_ ?_
 refine ze ?_ ?_
 intro h; cases h; rfl
 refine ze ?_ ?_
 intro h; cases h; rfl
 intro h; cases h
 intro h; cases h
 refine ze ?_ ?_
 refine ze ?_ ?_
 intro h; cases h; rfl
 refine ze ?_ ?_
 intro h; cases h; rfl
 intro h; cases h
 intro h; cases h
 intro h; cases h
 intro h; cases h
 intro h; cases h
noncomputable def sLas : TellS := fun S => dCS 0 S fun y1 y2 y3 => dSt 1 y1 fun y5 l4 => dL 1 0 y5 <| dSt 3 l4 fun y7 l6 => dL 3 0 y7 <| dSs 4 l6 fun y9 l8 => yY 0 0 y9 <| dSt 8 l8 fun y11 l10 => dL 1 0 y11 <| dSt 10 l10 fun y13 l12 => dL 1 6 y13 <| dSt 12 l12 fun y15 l14 => dL 3 0 y15 <| dSt 16 l14 fun y17 l16 => dL 3 1 y17 <| dSt 22 l16 fun y19 l18 => dL 3 2 y19 <| dSt 28 l18 fun y21 l20 => dL 3 3 y21 <| dSt 33 l20 fun y23 l22 => dL 1 4 y23 <| dSt 39 l22 fun y25 l24 => dL 1 5 y25 <| dSt 45 l24 fun y27 l26 => dL 1 14 y27 <| dE l26 <| dLo 1 y2 fun y28 l29 => dK y28 fun x0 l30 => dK l30 fun x1 l31 => dK l31 fun x2 l32 => dK l32 fun x3 l33 => dK l33 fun x4 l34 => dC l34 fun y35 l36 => dD 51 (.list 55 QDy) y35 fun x5 => dK l36 fun x6 l37 => dK l37 fun x7 l38 => dK l38 fun x8 l39 => dK l39 fun x9 l40 => dK l40 fun A l41 => dK l41 fun B l42 => dK l42 fun C l43 => dK l43 fun D l44 => dCI .u64 l44 fun E l45 => dE l45 <| dLo 3 l29 fun y46 l47 => dK y46 fun F l48 => dK l48 fun G l49 => dK l49 fun I l50 => dK l50 fun J l51 => dE l51 <| dE l47 <| dHB 25 y3 fun y53 l52 => dK y53 fun K l54 => dK l54 fun L l55 => dK l55 fun M l56 => dK l56 fun N l57 => dK l57 fun O l58 => dK l58 fun P l59 => dK l59 fun Q l60 => dK l60 fun R l61 => dE l61 <| dE l52 <|  some [(ok (Las x0 x1 x2 x3 x4 x5 x6 x7 x8 x9 A B C D E F G I J K L M N O P Q R), .ret, { sl := [(2, .v (.sc (.bool ((val (Las x0 x1 x2 x3 x4 x5 x6 x7 x8 x9 A B C D E F G I J K L M N O P Q R))))))], lo := [], h := [], n0 := 0, w := true })]
theorem wLas : zG Try.prog dOk base o12 t12 ((18, 36), sLas) := by
 refine ⟨(zh Try.prog (tn0 18) 18 36), 0, by kernel_rfl, ?_⟩
 intro S alts e S' h10 h2
 have h1 : sLas S = some alts := h10
 clear h10
 unfold sLas at h1
 replace h1 := yN h1; obtain ⟨_, _, _, rfl, h1⟩ := h1
 replace h1 := zd h1; obtain ⟨_, _, rfl, h1⟩ := h1
 replace h1 := dLq h1; obtain ⟨rfl, h1⟩ := h1
 replace h1 := zd h1; obtain ⟨_, _, rfl, h1⟩ := h1
 replace h1 := dLq h1; obtain ⟨rfl, h1⟩ := h1
 replace h1 := yf h1; obtain ⟨_, _, rfl, h1⟩ := h1
 replace h1 := yD h1; obtain ⟨rfl, h1⟩ := h1
 replace h1 := zd h1; obtain ⟨_, _, rfl, h1⟩ := h1
 replace h1 := dLq h1; obtain ⟨rfl, h1⟩ := h1
 replace h1 := zd h1; obtain ⟨_, _, rfl, h1⟩ := h1
 replace h1 := dLq h1; obtain ⟨rfl, h1⟩ := h1
 replace h1 := zd h1; obtain ⟨_, _, rfl, h1⟩ := h1
 replace h1 := dLq h1; obtain ⟨rfl, h1⟩ := h1
 replace h1 := zd h1; obtain ⟨_, _, rfl, h1⟩ := h1
 replace h1 := dLq h1; obtain ⟨rfl, h1⟩ := h1
 replace h1 := zd h1; obtain ⟨_, _, rfl, h1⟩ := h1
 replace h1 := dLq h1; obtain ⟨rfl, h1⟩ := h1
 replace h1 := zd h1; obtain ⟨_, _, rfl, h1⟩ := h1
 replace h1 := dLq h1; obtain ⟨rfl, h1⟩ := h1
 replace h1 := zd h1; obtain ⟨_, _, rfl, h1⟩ := h1
 replace h1 := dLq h1; obtain ⟨rfl, h1⟩ := h1
 replace h1 := zd h1; obtain ⟨_, _, rfl, h1⟩ := h1
 replace h1 := dLq h1; obtain ⟨rfl, h1⟩ := h1
 replace h1 := zd h1; obtain ⟨_, _, rfl, h1⟩ := h1
 replace h1 := dLq h1; obtain ⟨rfl, h1⟩ := h1
 replace h1 := dEq h1; obtain ⟨rfl, h1⟩ := h1
 replace h1 := zQ h1; obtain ⟨_, _, rfl, h1⟩ := h1
 replace h1 := dJ5 h1; obtain ⟨_, _, _, _, _, _, rfl, h1⟩ := h1
 replace h1 := dCq h1; obtain ⟨_, _, rfl, h1⟩ := h1
 replace h1 := dDq h1; obtain ⟨_, rfl, h1⟩ := h1
 replace h1 := dJ9 h1; obtain ⟨_, _, _, _, _, _, _, _, _, _, rfl, h1⟩ := h1
 replace h1 := dEq h1; obtain ⟨rfl, h1⟩ := h1
 replace h1 := zQ h1; obtain ⟨_, _, rfl, h1⟩ := h1
 replace h1 := dJ4 h1; obtain ⟨_, _, _, _, _, rfl, h1⟩ := h1
 replace h1 := dEq h1; obtain ⟨rfl, h1⟩ := h1
 replace h1 := dEq h1; obtain ⟨rfl, h1⟩ := h1
 replace h1 := xz h1; obtain ⟨_, _, rfl, h1⟩ := h1
 replace h1 := dJ8 h1; obtain ⟨_, _, _, _, _, _, _, _, _, rfl, h1⟩ := h1
 replace h1 := dEq h1; obtain ⟨rfl, h1⟩ := h1
 replace h1 := dEq h1; obtain ⟨rfl, h1⟩ := h1
 cases h1
 obtain ⟨hc0, rfl, rfl⟩ := zH h2
 exact ⟨0 + 40, (zy rfl).trans (lLas 0 _ _ _ _ _ _ _ _ _ _ _ _ _ _ _ _ _ _ _ _ _ _ _ _ _ _ _ _ (zk hc0))⟩
noncomputable def o13 : OrcT := o12
noncomputable def t13 : TellT := ((18, 36), sLas) :: t12
noncomputable abbrev tn13 : FuncId → TAn := zj base o13 t13
theorem ok13 : TnOk Try.prog tn13 (mkA base) dOk := by
 have h0 : TnOk Try.prog (tn12) (mkA base) dOk := ok12
 have h1 := zK h0 h0 (p := ((18, 36), sLas)) wLas
 exact h1
noncomputable def v18 (x0 x1 x2 x3 x4 : Int) (x5 : (List (List (PKt × Int)))) (x6 x7 x8 x9 A B C D E : Int) : Option Bool := (cond (x0 != (3 : Int)) (some (false)) (cond (ok (v39 x1 0 (1000000 : Int))) (cond (!val (v39 x1 0 (1000000 : Int))) (some (false)) (cond (ok (v39 x2 (1 : Int) (1000000 : Int))) (cond (!val (v39 x2 (1 : Int) (1000000 : Int))) (some (false)) (cond (x3 != 0) (some (false)) (cond (ok (v39 x4 (1 : Int) (500 : Int))) (cond (!val (v39 x4 (1 : Int) (500 : Int))) (some (false)) (cond ((x5.length : Int) != (1 : Int)) (some (false)) (cond (E != 0) (some (false)) (cond (ok (Las x0 x1 x2 x3 x4 x5 x6 x7 x8 x9 A B C D E x0 x1 x2 x3 x6 x7 x8 x9 A B C D)) (some (val (Las x0 x1 x2 x3 x4 x5 x6 x7 x8 x9 A B C D E x0 x1 x2 x3 x6 x7 x8 x9 A B C D))) none)))) none))) none)) none))
theorem ev18 (x0 x1 x2 x3 x4 : Int) (x5 : (List (List (PKt × Int)))) (x6 x7 x8 x9 A B C D E : Int) : zJ Try.prog (tn13 18) (TM.evF Try.prog (tn13) dOk 40) dOk 40 18 [.agg [I4 (x0), I4 (x1), I4 (x2), I4 (x3), I4 (x4), .d 51 (.list 55 QDy) (x5), I4 (x6), I4 (x7), I4 (x8), I4 (x9), I4 (A), I4 (B), I4 (C), I4 (D), .int .u64 (E)]] [] = (v18 x0 x1 x2 x3 x4 x5 x6 x7 x8 x9 A B C D E).bind fun r => some ([.sc (.bool (r))], []) := by
 refine Eq.trans (b := (cond (x0 != (3 : Int)) (some ([.sc (.bool (false))], [])) (cond (ok (v39 x1 0 (1000000 : Int))) (cond (!val (v39 x1 0 (1000000 : Int))) (some ([.sc (.bool (false))], [])) (cond (ok (v39 x2 (1 : Int) (1000000 : Int))) (cond (!val (v39 x2 (1 : Int) (1000000 : Int))) (some ([.sc (.bool (false))], [])) (cond (x3 != 0) (some ([.sc (.bool (false))], [])) (cond (ok (v39 x4 (1 : Int) (500 : Int))) (cond (!val (v39 x4 (1 : Int) (500 : Int))) (some ([.sc (.bool (false))], [])) (cond ((x5.length : Int) != (1 : Int)) (some ([.sc (.bool (false))], [])) (cond (E != 0) (some ([.sc (.bool (false))], [])) (cond (ok (Las x0 x1 x2 x3 x4 x5 x6 x7 x8 x9 A B C D E x0 x1 x2 x3 x6 x7 x8 x9 A B C D)) (some ([.sc (.bool (val (Las x0 x1 x2 x3 x4 x5 x6 x7 x8 x9 A B C D E x0 x1 x2 x3 x6 x7 x8 x9 A B C D)))], [])) none)))) none))) none)) none))) (by kernel_rfl) ?_
 unfold v18
 refine zc ?_ ?_
 rfl
 refine zc ?_ ?_
 refine zc ?_ ?_
 rfl
 refine zc ?_ ?_
 refine zc ?_ ?_
 rfl
 refine zc ?_ ?_
 rfl
 refine zc ?_ ?_
 refine zc ?_ ?_
 rfl
 refine zc ?_ ?_
 rfl
 refine zc ?_ ?_
 rfl
 refine zc ?_ ?_
 rfl
 rfl
 rfl
 rfl
 rfl
noncomputable def sv18 : OrcS := fun al H => dC al fun y1 l2 => dA y1 fun y3 => dK y3 fun x0 l4 => dK l4 fun x1 l5 => dK l5 fun x2 l6 => dK l6 fun x3 l7 => dK l7 fun x4 l8 => dC l8 fun y9 l10 => dD 51 (.list 55 QDy) y9 fun x5 => dK l10 fun x6 l11 => dK l11 fun x7 l12 => dK l12 fun x8 l13 => dK l13 fun x9 l14 => dK l14 fun A l15 => dK l15 fun B l16 => dK l16 fun C l17 => dK l17 fun D l18 => dCI .u64 l18 fun E l19 => dE l19 <| dE l2 <| dE H <|  some [(ok (v18 x0 x1 x2 x3 x4 x5 x6 x7 x8 x9 A B C D E), [.sc (.bool ((val (v18 x0 x1 x2 x3 x4 x5 x6 x7 x8 x9 A B C D E))))], [])]
theorem wv18 : zI Try.prog dOk base o13 t13 (18, sv18) := by
 intro al H q hq0 rs H2 h2
 have hq : sv18 al H = some q := hq0
 clear hq0
 unfold sv18 at hq
 obtain ⟨_, _, rfl, g1⟩ := dCq hq
 obtain ⟨_, rfl, g2⟩ := dAq g1
 obtain ⟨_, _, _, _, _, _, rfl, g3⟩ := dJ5 g2
 obtain ⟨_, _, rfl, g4⟩ := dCq g3
 obtain ⟨_, rfl, g5⟩ := dDq g4
 obtain ⟨_, _, _, _, _, _, _, _, _, _, rfl, g6⟩ := dJ9 g5
 obtain ⟨rfl, g7⟩ := dEq g6
 obtain ⟨rfl, g8⟩ := dEq g7
 obtain ⟨rfl, g9⟩ := dEq g8
 cases g9
 obtain ⟨hc0, rfl, rfl⟩ := zq h2
 exact ⟨41, (zW (by kernel_rfl)).trans ((ev18 _ _ _ _ _ _ _ _ _ _ _ _ _ _ _).trans (zE (zk hc0)))⟩
noncomputable def o14 : OrcT := (18, sv18) :: o13
noncomputable def t14 : TellT := t13
noncomputable abbrev tn14 : FuncId → TAn := zj base o14 t14
theorem ok14 : TnOk Try.prog tn14 (mkA base) dOk := by
 have h0 : TnOk Try.prog (tn13) (mkA base) dOk := ok13
 have h1 := zM h0 h0 (p := (18, sv18)) wv18
 exact h1
noncomputable def v32 (x0 x1 x2 x3 x4 : Int) (x5 : (List (List (PKt × Int)))) (x6 x7 x8 x9 A B C D E F : Int) : Option (Int ⊕ (Int × (List (PKt × Int)))) := (cond (ok (v18 x0 x1 x2 x3 x4 x5 x6 x7 x8 x9 A B C D E)) (cond (!val (v18 x0 x1 x2 x3 x4 x5 x6 x7 x8 x9 A B C D E)) (some (.inl ((1 : Int)))) (cond (ok (v40 F)) (cond (!val (v40 F)) (some (.inl ((1 : Int)))) (cond (decide (F < D)) (some (.inl ((18 : Int)))) (cond (decide (0 < (x5.length : Int))) (cond (decide ((↑(List.length (List.getD x5 (Int.toNat 0) [])) : Int) ≤ IntKind.wrap IntKind.i64 ((↑(List.length (List.getD x5 (Int.toNat 0) [])) : Int) + (1 : Int)))) (cond (decide (IntKind.wrap IntKind.i64 ((↑(List.length (List.getD x5 (Int.toNat 0) [])) : Int) + (1 : Int)) ≤ (↑(nat_lit 2147483648) : Int))) (some (.inr (0, List.take (List.length (List.replicate (↑(List.length (List.getD x5 (Int.toNat 0) [])) : Int).toNat (PKz, (0 : Int)))) (List.getD x5 (Int.toNat 0) []) ++ List.drop (List.length (List.getD x5 (Int.toNat 0) [])) (List.replicate (↑(List.length (List.getD x5 (Int.toNat 0) [])) : Int).toNat (PKz, (0 : Int)))))) none) none) none))) none)) none)
noncomputable def xv32 (x0 x1 x2 x3 x4 : Int) (x5 : (List (List (PKt × Int)))) (x6 x7 x8 x9 A B C D E F : Int) : (Int ⊕ (Int × (List (PKt × Int)))) → List TA × TH := fun r => match r with | .inl a0 => ([.sc (.nilp), .sc (I4 (a0))], []) | .inr b0 => ([.sc (.ptr 0 0), .sc (I4 (b0.1))], [.box 69 [I4 (x0), I4 (x1), I4 (x2), I4 (x3), I4 (x4), .sc 1 (0) (1), I4 (x6), I4 (x7), I4 (x8), I4 (x9), I4 (A), I4 (B), I4 (C), I4 (F), .int .u64 (E), I4 (F)], .crow 51 [.g 2], .row 55 QDy (b0.2 : List (PKt × Int))])
theorem ev32 (x0 x1 x2 x3 x4 : Int) (x5 : (List (List (PKt × Int)))) (x6 x7 x8 x9 A B C D E F : Int) : zJ Try.prog (tn14 32) (TM.evF Try.prog (tn14) dOk 40) dOk 40 32 [.agg [I4 (x0), I4 (x1), I4 (x2), I4 (x3), I4 (x4), .d 51 (.list 55 QDy) (x5), I4 (x6), I4 (x7), I4 (x8), I4 (x9), I4 (A), I4 (B), I4 (C), I4 (D), .int .u64 (E)], .sc (I4 F)] [] = (v32 x0 x1 x2 x3 x4 x5 x6 x7 x8 x9 A B C D E F).bind fun r => some (xv32 x0 x1 x2 x3 x4 x5 x6 x7 x8 x9 A B C D E F r) := by
 refine Eq.trans (b := (cond (ok (v18 x0 x1 x2 x3 x4 x5 x6 x7 x8 x9 A B C D E)) (cond (!val (v18 x0 x1 x2 x3 x4 x5 x6 x7 x8 x9 A B C D E)) (some ([.sc (.nilp), .sc (I4 ((1 : Int)))], [])) (cond (ok (v40 F)) (cond (!val (v40 F)) (some ([.sc (.nilp), .sc (I4 ((1 : Int)))], [])) (cond (decide (F < D)) (some ([.sc (.nilp), .sc (I4 ((18 : Int)))], [])) (cond (decide (0 < (x5.length : Int))) (cond (decide (0 < (x5.length : Int))) (cond (decide ((↑(List.length (List.getD x5 (Int.toNat 0) [])) : Int) ≤ IntKind.wrap IntKind.i64 ((↑(List.length (List.getD x5 (Int.toNat 0) [])) : Int) + (1 : Int)))) (cond (decide (IntKind.wrap IntKind.i64 ((↑(List.length (List.getD x5 (Int.toNat 0) [])) : Int) + (1 : Int)) ≤ (↑(nat_lit 2147483648) : Int))) (cond (decide (0 < (x5.length : Int))) (some ([.sc (.ptr 0 0), .sc (I4 (0))], [.box 69 [I4 (x0), I4 (x1), I4 (x2), I4 (x3), I4 (x4), .sc 1 (0) (1), I4 (x6), I4 (x7), I4 (x8), I4 (x9), I4 (A), I4 (B), I4 (C), I4 (F), .int .u64 (E), I4 (F)], .crow 51 [.g 2], .row 55 QDy (List.take (List.length (List.replicate (↑(List.length (List.getD x5 (Int.toNat 0) [])) : Int).toNat (PKz, (0 : Int)))) (List.getD x5 (Int.toNat 0) []) ++ List.drop (List.length (List.getD x5 (Int.toNat 0) [])) (List.replicate (↑(List.length (List.getD x5 (Int.toNat 0) [])) : Int).toNat (PKz, (0 : Int))) : List (PKt × Int))])) none) none) none) none) none))) none)) none)) (by kernel_rfl) ?_
 unfold v32
 cases (ok (v18 x0 x1 x2 x3 x4 x5 x6 x7 x8 x9 A B C D E)) with
 | true =>
  cases (!val (v18 x0 x1 x2 x3 x4 x5 x6 x7 x8 x9 A B C D E)) with
  | true =>
   rfl
  | false =>
   cases (ok (v40 F)) with
   | true =>
    cases (!val (v40 F)) with
    | true =>
     rfl
    | false =>
     cases (decide (F < D)) with
     | true =>
      rfl
     | false =>
      cases (decide (0 < (x5.length : Int))) with
      | true =>
       cases (decide ((↑(List.length (List.getD x5 (Int.toNat 0) [])) : Int) ≤ IntKind.wrap IntKind.i64 ((↑(List.length (List.getD x5 (Int.toNat 0) [])) : Int) + (1 : Int)))) with
       | true =>
        cases (decide (IntKind.wrap IntKind.i64 ((↑(List.length (List.getD x5 (Int.toNat 0) [])) : Int) + (1 : Int)) ≤ (↑(nat_lit 2147483648) : Int))) with
        | true =>
         rfl
        | false =>
         rfl
       | false =>
        rfl
      | false =>
       rfl
   | false =>
    rfl
 | false =>
  rfl
noncomputable def sv32 : OrcS := fun al H => dC al fun y1 l2 => dA y1 fun y3 => dK y3 fun x0 l4 => dK l4 fun x1 l5 => dK l5 fun x2 l6 => dK l6 fun x3 l7 => dK l7 fun x4 l8 => dC l8 fun y9 l10 => dD 51 (.list 55 QDy) y9 fun x5 => dK l10 fun x6 l11 => dK l11 fun x7 l12 => dK l12 fun x8 l13 => dK l13 fun x9 l14 => dK l14 fun A l15 => dK l15 fun B l16 => dK l16 fun C l17 => dK l17 fun D l18 => dCI .u64 l18 fun E l19 => dE l19 <| dC l2 fun y20 l21 => dS y20 fun y22 => yX .i64 y22 fun F => dE l21 <| dE H <|  some [(isL (v32 x0 x1 x2 x3 x4 x5 x6 x7 x8 x9 A B C D E F), [.sc (.nilp), .sc (I4 ((zb (v32 x0 x1 x2 x3 x4 x5 x6 x7 x8 x9 A B C D E F))))], []), (ok (za (v32 x0 x1 x2 x3 x4 x5 x6 x7 x8 x9 A B C D E F)), [.sc (.ptr 0 0), .sc (I4 ((val (za (v32 x0 x1 x2 x3 x4 x5 x6 x7 x8 x9 A B C D E F))).1))], [.box 69 [I4 (x0), I4 (x1), I4 (x2), I4 (x3), I4 (x4), .sc 1 (0) (1), I4 (x6), I4 (x7), I4 (x8), I4 (x9), I4 (A), I4 (B), I4 (C), I4 (F), .int .u64 (E), I4 (F)], .crow 51 [.g 2], .row 55 QDy ((val (za (v32 x0 x1 x2 x3 x4 x5 x6 x7 x8 x9 A B C D E F))).2 : List (PKt × Int))])]
theorem wv32 : zI Try.prog dOk base o14 t14 (32, sv32) := by
 intro al H q hq0 rs H2 h2
 have hq : sv32 al H = some q := hq0
 clear hq0
 unfold sv32 at hq
 obtain ⟨_, _, rfl, g1⟩ := dCq hq
 obtain ⟨_, rfl, g2⟩ := dAq g1
 obtain ⟨_, _, _, _, _, _, rfl, g3⟩ := dJ5 g2
 obtain ⟨_, _, rfl, g4⟩ := dCq g3
 obtain ⟨_, rfl, g5⟩ := dDq g4
 obtain ⟨_, _, _, _, _, _, _, _, _, _, rfl, g6⟩ := dJ9 g5
 obtain ⟨rfl, g7⟩ := dEq g6
 obtain ⟨_, _, rfl, g8⟩ := dCq g7
 obtain ⟨_, rfl, g9⟩ := dSq g8
 obtain ⟨_, rfl, g10⟩ := yS g9
 obtain ⟨rfl, g11⟩ := dEq g10
 obtain ⟨rfl, g12⟩ := dEq g11
 cases g12
 rcases pickR_cons h2 with ⟨hc0, rfl, rfl⟩ | h2
 · exact ⟨41, (zW (by kernel_rfl)).trans ((ev32 _ _ _ _ _ _ _ _ _ _ _ _ _ _ _ _).trans (zE (yO hc0)))⟩
 obtain ⟨hc1, rfl, rfl⟩ := zq h2
 exact ⟨41, (zW (by kernel_rfl)).trans ((ev32 _ _ _ _ _ _ _ _ _ _ _ _ _ _ _ _).trans (zE (yp (zk hc1))))⟩
noncomputable def o15 : OrcT := (32, sv32) :: o14
noncomputable def t15 : TellT := t14
noncomputable abbrev tn15 : FuncId → TAn := zj base o15 t15
theorem ok15 : TnOk Try.prog tn15 (mkA base) dOk := by
 have h0 : TnOk Try.prog (tn14) (mkA base) dOk := ok14
 have h1 := zM h0 h0 (p := (32, sv32)) wv32
 exact h1
noncomputable def sv33 : OrcS := fun al H => dC al fun y1 l2 => dS y1 fun y3 => Ue y3 <| dE l2 <| dE H <|  some []
theorem wv33 : zI Try.prog dOk base o15 t15 (33, sv33) := by
 intro al H q hq0 rs H2 h2
 have hq : sv33 al H = some q := hq0
 clear hq0
 unfold sv33 at hq
 obtain ⟨_, _, rfl, g1⟩ := dCq hq
 obtain ⟨_, rfl, g2⟩ := dSq g1
 obtain ⟨rfl, g3⟩ := Un g2
 obtain ⟨rfl, g4⟩ := dEq g3
 obtain ⟨rfl, g5⟩ := dEq g4
 cases g5
 cases h2
noncomputable def v33_1 (x0 x1 x2 x3 x4 x5 x6 x7 x8 x9 A B C D E : Int) (F : (List (PKt × Int))) : Option Unit := (some ())
theorem ev33_1 (x0 x1 x2 x3 x4 x5 x6 x7 x8 x9 A B C D E : Int) (F : (List (PKt × Int))) : zJ Try.prog (tn15 33) (TM.evF Try.prog (tn15) dOk 40) dOk 40 33 [.sc (.ptr 0 0)] [.box 69 [I4 (x0), I4 (x1), I4 (x2), I4 (x3), I4 (x4), .sc 1 (0) (1), I4 (x5), I4 (x6), I4 (x7), I4 (x8), I4 (x9), I4 (A), I4 (B), I4 (C), .int .u64 (D), I4 (E)], .crow 51 [.g 2], .row 55 QDy (F)] = (v33_1 x0 x1 x2 x3 x4 x5 x6 x7 x8 x9 A B C D E F).bind fun r => some ([.sc (.g 2)], [.box 69 [I4 (x0), I4 (x1), I4 (x2), I4 (x3), I4 (x4), .sc 1 (0) (1), I4 (x5), I4 (x6), I4 (x7), I4 (x8), I4 (x9), I4 (A), I4 (B), I4 (C), .int .u64 (D), I4 (E)], .crow 51 [.g 2], .row 55 QDy (F)]) := by
 refine Eq.trans (b := (some ([.sc (.g 2)], [.box 69 [I4 (x0), I4 (x1), I4 (x2), I4 (x3), I4 (x4), .sc 1 (0) (1), I4 (x5), I4 (x6), I4 (x7), I4 (x8), I4 (x9), I4 (A), I4 (B), I4 (C), .int .u64 (D), I4 (E)], .crow 51 [.g 2], .row 55 QDy (F)]))) (by kernel_rfl) ?_
 unfold v33_1
 rfl
noncomputable def sv33_1 : OrcS := fun al H => dC al fun y1 l2 => dS y1 fun y3 => yY 0 0 y3 <| dE l2 <| dHB 69 H fun y5 l4 => dK y5 fun x0 l6 => dK l6 fun x1 l7 => dK l7 fun x2 l8 => dK l8 fun x3 l9 => dK l9 fun x4 l10 => dC l10 fun y11 l12 => dSc 1 y11 fun y13 y14 => dN y13 0 <| dN y14 1 <| dK l12 fun x5 l15 => dK l15 fun x6 l16 => dK l16 fun x7 l17 => dK l17 fun x8 l18 => dK l18 fun x9 l19 => dK l19 fun A l20 => dK l20 fun B l21 => dK l21 fun C l22 => dCI .u64 l22 fun D l23 => dK l23 fun E l24 => dE l24 <| dC l4 fun y26 l25 => wt 51 y26 fun y27 => dC y27 fun y28 l29 => dG 2 y28 <| dE l29 <| dHR 55 QDy l25 fun F l30 => dE l30 <|  some [(ok (v33_1 x0 x1 x2 x3 x4 x5 x6 x7 x8 x9 A B C D E F), [.sc (.g 2)], [.box 69 [I4 (x0), I4 (x1), I4 (x2), I4 (x3), I4 (x4), .sc 1 (0) (1), I4 (x5), I4 (x6), I4 (x7), I4 (x8), I4 (x9), I4 (A), I4 (B), I4 (C), .int .u64 (D), I4 (E)], .crow 51 [.g 2], .row 55 QDy (F)])]
theorem wv33_1 : zI Try.prog dOk base o15 t15 (33, sv33_1) := by
 intro al H q hq0 rs H2 h2
 have hq : sv33_1 al H = some q := hq0
 clear hq0
 unfold sv33_1 at hq
 replace hq := dCq hq; obtain ⟨_, _, rfl, hq⟩ := hq
 replace hq := dSq hq; obtain ⟨_, rfl, hq⟩ := hq
 replace hq := yD hq; obtain ⟨rfl, hq⟩ := hq
 replace hq := dEq hq; obtain ⟨rfl, hq⟩ := hq
 replace hq := xz hq; obtain ⟨_, _, rfl, hq⟩ := hq
 replace hq := dJ5 hq; obtain ⟨_, _, _, _, _, _, rfl, hq⟩ := hq
 replace hq := dCq hq; obtain ⟨_, _, rfl, hq⟩ := hq
 replace hq := ZS hq; obtain ⟨_, _, rfl, hq⟩ := hq
 replace hq := dNq hq; obtain ⟨rfl, hq⟩ := hq
 replace hq := dNq hq; obtain ⟨rfl, hq⟩ := hq
 replace hq := dJ9 hq; obtain ⟨_, _, _, _, _, _, _, _, _, _, rfl, hq⟩ := hq
 replace hq := zC hq; obtain ⟨_, _, rfl, hq⟩ := hq
 replace hq := dEq hq; obtain ⟨rfl, hq⟩ := hq
 replace hq := dCq hq; obtain ⟨_, _, rfl, hq⟩ := hq
 replace hq := xQ hq; obtain ⟨_, rfl, hq⟩ := hq
 replace hq := dCq hq; obtain ⟨_, _, rfl, hq⟩ := hq
 replace hq := dGq hq; obtain ⟨rfl, hq⟩ := hq
 replace hq := dEq hq; obtain ⟨rfl, hq⟩ := hq
 replace hq := yE hq; obtain ⟨_, _, rfl, hq⟩ := hq
 replace hq := dEq hq; obtain ⟨rfl, hq⟩ := hq
 cases hq
 obtain ⟨hc0, rfl, rfl⟩ := zq h2
 exact ⟨41, (zW (by kernel_rfl)).trans ((ev33_1 _ _ _ _ _ _ _ _ _ _ _ _ _ _ _ _).trans (zE (zk hc0)))⟩
noncomputable def o16 : OrcT := (33, sv33) :: (33, sv33_1) :: o15
noncomputable def t16 : TellT := t15
noncomputable abbrev tn16 : FuncId → TAn := zj base o16 t16
theorem ok16 : TnOk Try.prog tn16 (mkA base) dOk := by
 have h0 : TnOk Try.prog (tn15) (mkA base) dOk := ok15
 have h1 := zM h0 h0 (p := (33, sv33_1)) wv33_1
 have h2 := zM h0 h1 (p := (33, sv33)) wv33
 exact h2
noncomputable def sLaB : TellS := fun S => dCS 0 S fun y1 y2 y3 => dSI 2 .i64 y1 fun x0 l4 => dSt 3 l4 fun y6 l5 => dL 3 0 y6 <| dSt 4 l5 fun y8 l7 => dL 4 0 y8 <| dSt 6 l7 fun y10 l9 => dL 6 0 y10 <| dSs 9 l9 fun y12 l11 => Ue y12 <| dE l11 <| dLo 4 y2 fun y13 l14 => dK y13 fun x1 l15 => dK l15 fun x2 l16 => dK l16 fun x3 l17 => dK l17 fun x4 l18 => dK l18 fun x5 l19 => dK l19 fun x6 l20 => dC l20 fun y21 l22 => zA y21 fun x7 => dC l22 fun y23 l24 => zA y23 fun x8 => dE l24 <| dLo 6 l14 fun y25 l26 => dK y25 fun x9 l27 => dK l27 fun A l28 => dK l28 fun B l29 => dK l29 fun C l30 => dK l30 fun D l31 => dC l31 fun y32 l33 => dG 0 y32 <| dK l33 fun E l34 => dK l34 fun F l35 => dK l35 fun G l36 => dK l36 fun I l37 => dK l37 fun J l38 => dK l38 fun K l39 => dK l39 fun L l40 => dK l40 fun M l41 => dCI .u64 l41 fun N l42 => dE l42 <| dE l26 <| dHR 51 (.list 55 QDy) y3 fun O l43 => dE l43 <|  some []
theorem wLaB : zG Try.prog dOk base o16 t16 ((12, 52), sLaB) := by
 refine ⟨(zh Try.prog (tn0 12) 12 52), 0, by kernel_rfl, ?_⟩
 intro S alts e S' h10 h2
 have h1 : sLaB S = some alts := h10
 clear h10
 unfold sLaB at h1
 replace h1 := yN h1; obtain ⟨_, _, _, rfl, h1⟩ := h1
 replace h1 := xp h1; obtain ⟨_, _, rfl, h1⟩ := h1
 replace h1 := zd h1; obtain ⟨_, _, rfl, h1⟩ := h1
 replace h1 := dLq h1; obtain ⟨rfl, h1⟩ := h1
 replace h1 := zd h1; obtain ⟨_, _, rfl, h1⟩ := h1
 replace h1 := dLq h1; obtain ⟨rfl, h1⟩ := h1
 replace h1 := zd h1; obtain ⟨_, _, rfl, h1⟩ := h1
 replace h1 := dLq h1; obtain ⟨rfl, h1⟩ := h1
 replace h1 := yf h1; obtain ⟨_, _, rfl, h1⟩ := h1
 replace h1 := Un h1; obtain ⟨rfl, h1⟩ := h1
 replace h1 := dEq h1; obtain ⟨rfl, h1⟩ := h1
 replace h1 := zQ h1; obtain ⟨_, _, rfl, h1⟩ := h1
 replace h1 := dJ6 h1; obtain ⟨_, _, _, _, _, _, _, rfl, h1⟩ := h1
 replace h1 := dCq h1; obtain ⟨_, _, rfl, h1⟩ := h1
 replace h1 := zr h1; obtain ⟨_, rfl, h1⟩ := h1
 replace h1 := dCq h1; obtain ⟨_, _, rfl, h1⟩ := h1
 replace h1 := zr h1; obtain ⟨_, rfl, h1⟩ := h1
 replace h1 := dEq h1; obtain ⟨rfl, h1⟩ := h1
 replace h1 := zQ h1; obtain ⟨_, _, rfl, h1⟩ := h1
 replace h1 := dJ5 h1; obtain ⟨_, _, _, _, _, _, rfl, h1⟩ := h1
 replace h1 := dCq h1; obtain ⟨_, _, rfl, h1⟩ := h1
 replace h1 := dGq h1; obtain ⟨rfl, h1⟩ := h1
 replace h1 := dJ9 h1; obtain ⟨_, _, _, _, _, _, _, _, _, _, rfl, h1⟩ := h1
 replace h1 := dEq h1; obtain ⟨rfl, h1⟩ := h1
 replace h1 := dEq h1; obtain ⟨rfl, h1⟩ := h1
 replace h1 := yE h1; obtain ⟨_, _, rfl, h1⟩ := h1
 replace h1 := dEq h1; obtain ⟨rfl, h1⟩ := h1
 cases h1
 cases h2
noncomputable def o17 : OrcT := o16
noncomputable def t17 : TellT := ((12, 52), sLaB) :: t16
noncomputable abbrev tn17 : FuncId → TAn := zj base o17 t17
theorem ok17 : TnOk Try.prog tn17 (mkA base) dOk := by
 have h0 : TnOk Try.prog (tn16) (mkA base) dOk := ok16
 have h1 := zK h0 h0 (p := ((12, 52), sLaB)) wLaB
 exact h1
noncomputable def Lar (x0 x1 x2 x3 x4 x5 x6 : Int) (x7 : Bool) (x8 : Bool) (x9 A B C D E F G I J K L M N O P Q R T U V W X Y x33 x34 x35 x36 x37 : Int) (x38 : (List (PKt × Int))) (x39 : (List (List (PKt × Int)))) : Option (Int × (List (PKt × Int))) := (cond (decide (List.length x38 + List.length [((x1, x2, x3, x4, x5, x6, x7, x8), x0)] ≤ nat_lit 2147483648)) (some (0, x38 ++ [((x1, x2, x3, x4, x5, x6, x7, x8), x0)])) none)
noncomputable def xLar (x0 x1 x2 x3 x4 x5 x6 : Int) (x7 : Bool) (x8 : Bool) (x9 A B C D E F G I J K L M N O P Q R T U V W X Y x33 x34 x35 x36 x37 : Int) (x38 : (List (PKt × Int))) (x39 : (List (List (PKt × Int)))) : (Int × (List (PKt × Int))) → Ex × CS := fun r => (.ret, { sl := [(6, .l 6 0), (7, .v (.sc (.nil))), (8, .v (.sc (I4 (r.1))))], lo := [(6, [I4 (O), I4 (P), I4 (Q), I4 (R), I4 (T), .sc 0 (0) (1), I4 (U), I4 (V), I4 (W), I4 (X), I4 (Y), I4 (x33), I4 (x34), I4 (x35), .int .u64 (x36)])], h := [.crow 51 [.g 1], .row 55 QDy (r.2 : List (PKt × Int))], n0 := 0, w := true })
theorem bLar (k : Nat) (cX : Ex → CS → Option (Ex × CS)) (x0 x1 x2 x3 x4 x5 x6 : Int) (x7 : Bool) (x8 : Bool) (x9 A B C D E F G I J K L M N O P Q R T U V W X Y x33 x34 x35 x36 x37 : Int) (x38 : (List (PKt × Int))) (x39 : (List (List (PKt × Int)))) : zo Try.prog (tn17 12) (TM.evF Try.prog (tn17) dOk (k + 40)) dOk (k + 40) (zh Try.prog (tn0 12) 12 68) 0 68 { sl := [(2, .v (.sc (I4 x0))), (3, .l 3 0), (4, .l 4 0), (6, .l 6 0), (9, .v (.sc (.ptr 0 0)))], lo := [(4, [I4 (x1), I4 (x2), I4 (x3), I4 (x4), I4 (x5), I4 (x6), .bool (x7), .bool (x8)]), (6, [I4 (x9), I4 (A), I4 (B), I4 (C), I4 (D), .g 3, I4 (E), I4 (F), I4 (G), I4 (I), I4 (J), I4 (K), I4 (L), I4 (M), .int .u64 (N)])], h := [.box 69 [I4 (O), I4 (P), I4 (Q), I4 (R), I4 (T), .sc 1 (0) (1), I4 (U), I4 (V), I4 (W), I4 (X), I4 (Y), I4 (x33), I4 (x34), I4 (x35), .int .u64 (x36), I4 (x37)], .crow 51 [.g 2], .row 55 QDy (x38), .row 51 (.list 55 QDy) (x39)], n0 := 0, w := false } cX = (cond (decide (List.length x38 + List.length [((x1, x2, x3, x4, x5, x6, x7, x8), x0)] ≤ nat_lit 2147483648)) (cX .ret { sl := [(6, .l 6 0), (7, .v (.sc (.nil))), (8, .v (.sc (I4 (0))))], lo := [(6, [I4 (O), I4 (P), I4 (Q), I4 (R), I4 (T), .sc 0 (0) (1), I4 (U), I4 (V), I4 (W), I4 (X), I4 (Y), I4 (x33), I4 (x34), I4 (x35), .int .u64 (x36)])], h := [.crow 51 [.g 1], .row 55 QDy (x38 ++ [((x1, x2, x3, x4, x5, x6, x7, x8), x0)] : List (PKt × Int))], n0 := 0, w := true }) none) := by kernel_rfl
theorem lLar (k : Nat) (x0 x1 x2 x3 x4 x5 x6 : Int) (x7 : Bool) (x8 : Bool) (x9 A B C D E F G I J K L M N O P Q R T U V W X Y x33 x34 x35 x36 x37 : Int) (x38 : (List (PKt × Int))) (x39 : (List (List (PKt × Int)))) (r : (Int × (List (PKt × Int)))) : Lar x0 x1 x2 x3 x4 x5 x6 x7 x8 x9 A B C D E F G I J K L M N O P Q R T U V W X Y x33 x34 x35 x36 x37 x38 x39 = some r → zo Try.prog (tn17 12) (TM.evF Try.prog (tn17) dOk (k + 40)) dOk (k + 40) (zh Try.prog (tn0 12) 12 68) 0 68 { sl := [(2, .v (.sc (I4 x0))), (3, .l 3 0), (4, .l 4 0), (6, .l 6 0), (9, .v (.sc (.ptr 0 0)))], lo := [(4, [I4 (x1), I4 (x2), I4 (x3), I4 (x4), I4 (x5), I4 (x6), .bool (x7), .bool (x8)]), (6, [I4 (x9), I4 (A), I4 (B), I4 (C), I4 (D), .g 3, I4 (E), I4 (F), I4 (G), I4 (I), I4 (J), I4 (K), I4 (L), I4 (M), .int .u64 (N)])], h := [.box 69 [I4 (O), I4 (P), I4 (Q), I4 (R), I4 (T), .sc 1 (0) (1), I4 (U), I4 (V), I4 (W), I4 (X), I4 (Y), I4 (x33), I4 (x34), I4 (x35), .int .u64 (x36), I4 (x37)], .crow 51 [.g 2], .row 55 QDy (x38), .row 51 (.list 55 QDy) (x39)], n0 := 0, w := false } (fun e s => some (e, s)) = some (xLar x0 x1 x2 x3 x4 x5 x6 x7 x8 x9 A B C D E F G I J K L M N O P Q R T U V W X Y x33 x34 x35 x36 x37 x38 x39 r) := by
 rw [bLar]
 unfold Lar
 refine ze ?_ ?_
 intro h; cases h; rfl
 intro h; cases h
noncomputable def sLar : TellS := fun S => dCS 0 S fun y1 y2 y3 => dSI 2 .i64 y1 fun x0 l4 => dSt 3 l4 fun y6 l5 => dL 3 0 y6 <| dSt 4 l5 fun y8 l7 => dL 4 0 y8 <| dSt 6 l7 fun y10 l9 => dL 6 0 y10 <| dSs 9 l9 fun y12 l11 => yY 0 0 y12 <| dE l11 <| dLo 4 y2 fun y13 l14 => dK y13 fun x1 l15 => dK l15 fun x2 l16 => dK l16 fun x3 l17 => dK l17 fun x4 l18 => dK l18 fun x5 l19 => dK l19 fun x6 l20 => dC l20 fun y21 l22 => zA y21 fun x7 => dC l22 fun y23 l24 => zA y23 fun x8 => dE l24 <| dLo 6 l14 fun y25 l26 => dK y25 fun x9 l27 => dK l27 fun A l28 => dK l28 fun B l29 => dK l29 fun C l30 => dK l30 fun D l31 => dC l31 fun y32 l33 => dG 3 y32 <| dK l33 fun E l34 => dK l34 fun F l35 => dK l35 fun G l36 => dK l36 fun I l37 => dK l37 fun J l38 => dK l38 fun K l39 => dK l39 fun L l40 => dK l40 fun M l41 => dCI .u64 l41 fun N l42 => dE l42 <| dE l26 <| dHB 69 y3 fun y44 l43 => dK y44 fun O l45 => dK l45 fun P l46 => dK l46 fun Q l47 => dK l47 fun R l48 => dK l48 fun T l49 => dC l49 fun y50 l51 => dSc 1 y50 fun y52 y53 => dN y52 0 <| dN y53 1 <| dK l51 fun U l54 => dK l54 fun V l55 => dK l55 fun W l56 => dK l56 fun X l57 => dK l57 fun Y l58 => dK l58 fun x33 l59 => dK l59 fun x34 l60 => dK l60 fun x35 l61 => dCI .u64 l61 fun x36 l62 => dK l62 fun x37 l63 => dE l63 <| dC l43 fun y65 l64 => wt 51 y65 fun y66 => dC y66 fun y67 l68 => dG 2 y67 <| dE l68 <| dHR 55 QDy l64 fun x38 l69 => dHR 51 (.list 55 QDy) l69 fun x39 l70 => dE l70 <|  some [(ok (Lar x0 x1 x2 x3 x4 x5 x6 x7 x8 x9 A B C D E F G I J K L M N O P Q R T U V W X Y x33 x34 x35 x36 x37 x38 x39), .ret, { sl := [(6, .l 6 0), (7, .v (.sc (.nil))), (8, .v (.sc (I4 ((val (Lar x0 x1 x2 x3 x4 x5 x6 x7 x8 x9 A B C D E F G I J K L M N O P Q R T U V W X Y x33 x34 x35 x36 x37 x38 x39)).1))))], lo := [(6, [I4 (O), I4 (P), I4 (Q), I4 (R), I4 (T), .sc 0 (0) (1), I4 (U), I4 (V), I4 (W), I4 (X), I4 (Y), I4 (x33), I4 (x34), I4 (x35), .int .u64 (x36)])], h := [.crow 51 [.g 1], .row 55 QDy ((val (Lar x0 x1 x2 x3 x4 x5 x6 x7 x8 x9 A B C D E F G I J K L M N O P Q R T U V W X Y x33 x34 x35 x36 x37 x38 x39)).2 : List (PKt × Int))], n0 := 0, w := true })]
theorem wLar : zG Try.prog dOk base o17 t17 ((12, 68), sLar) := by
 refine ⟨(zh Try.prog (tn0 12) 12 68), 0, by kernel_rfl, ?_⟩
 intro S alts e S' h10 h2
 have h1 : sLar S = some alts := h10
 clear h10
 unfold sLar at h1
 replace h1 := yN h1; obtain ⟨_, _, _, rfl, h1⟩ := h1
 replace h1 := xp h1; obtain ⟨_, _, rfl, h1⟩ := h1
 replace h1 := zd h1; obtain ⟨_, _, rfl, h1⟩ := h1
 replace h1 := dLq h1; obtain ⟨rfl, h1⟩ := h1
 replace h1 := zd h1; obtain ⟨_, _, rfl, h1⟩ := h1
 replace h1 := dLq h1; obtain ⟨rfl, h1⟩ := h1
 replace h1 := zd h1; obtain ⟨_, _, rfl, h1⟩ := h1
 replace h1 := dLq h1; obtain ⟨rfl, h1⟩ := h1
 replace h1 := yf h1; obtain ⟨_, _, rfl, h1⟩ := h1
 replace h1 := yD h1; obtain ⟨rfl, h1⟩ := h1
 replace h1 := dEq h1; obtain ⟨rfl, h1⟩ := h1
 replace h1 := zQ h1; obtain ⟨_, _, rfl, h1⟩ := h1
 replace h1 := dJ6 h1; obtain ⟨_, _, _, _, _, _, _, rfl, h1⟩ := h1
 replace h1 := dCq h1; obtain ⟨_, _, rfl, h1⟩ := h1
 replace h1 := zr h1; obtain ⟨_, rfl, h1⟩ := h1
 replace h1 := dCq h1; obtain ⟨_, _, rfl, h1⟩ := h1
 replace h1 := zr h1; obtain ⟨_, rfl, h1⟩ := h1
 replace h1 := dEq h1; obtain ⟨rfl, h1⟩ := h1
 replace h1 := zQ h1; obtain ⟨_, _, rfl, h1⟩ := h1
 replace h1 := dJ5 h1; obtain ⟨_, _, _, _, _, _, rfl, h1⟩ := h1
 replace h1 := dCq h1; obtain ⟨_, _, rfl, h1⟩ := h1
 replace h1 := dGq h1; obtain ⟨rfl, h1⟩ := h1
 replace h1 := dJ9 h1; obtain ⟨_, _, _, _, _, _, _, _, _, _, rfl, h1⟩ := h1
 replace h1 := dEq h1; obtain ⟨rfl, h1⟩ := h1
 replace h1 := dEq h1; obtain ⟨rfl, h1⟩ := h1
 replace h1 := xz h1; obtain ⟨_, _, rfl, h1⟩ := h1
 replace h1 := dJ5 h1; obtain ⟨_, _, _, _, _, _, rfl, h1⟩ := h1
 replace h1 := dCq h1; obtain ⟨_, _, rfl, h1⟩ := h1
 replace h1 := ZS h1; obtain ⟨_, _, rfl, h1⟩ := h1
 replace h1 := dNq h1; obtain ⟨rfl, h1⟩ := h1
 replace h1 := dNq h1; obtain ⟨rfl, h1⟩ := h1
 replace h1 := dJ9 h1; obtain ⟨_, _, _, _, _, _, _, _, _, _, rfl, h1⟩ := h1
 replace h1 := zC h1; obtain ⟨_, _, rfl, h1⟩ := h1
 replace h1 := dEq h1; obtain ⟨rfl, h1⟩ := h1
 replace h1 := dCq h1; obtain ⟨_, _, rfl, h1⟩ := h1
 replace h1 := xQ h1; obtain ⟨_, rfl, h1⟩ := h1
 replace h1 := dCq h1; obtain ⟨_, _, rfl, h1⟩ := h1
 replace h1 := dGq h1; obtain ⟨rfl, h1⟩ := h1
 replace h1 := dEq h1; obtain ⟨rfl, h1⟩ := h1
 replace h1 := yE h1; obtain ⟨_, _, rfl, h1⟩ := h1
 replace h1 := yE h1; obtain ⟨_, _, rfl, h1⟩ := h1
 replace h1 := dEq h1; obtain ⟨rfl, h1⟩ := h1
 cases h1
 obtain ⟨hc0, rfl, rfl⟩ := zH h2
 exact ⟨0 + 40, (zy rfl).trans (lLar 0 _ _ _ _ _ _ _ _ _ _ _ _ _ _ _ _ _ _ _ _ _ _ _ _ _ _ _ _ _ _ _ _ _ _ _ _ _ _ _ _ _ (zk hc0))⟩
noncomputable def o18 : OrcT := o17
noncomputable def t18 : TellT := ((12, 68), sLar) :: t17
noncomputable abbrev tn18 : FuncId → TAn := zj base o18 t18
theorem ok18 : TnOk Try.prog tn18 (mkA base) dOk := by
 have h0 : TnOk Try.prog (tn17) (mkA base) dOk := ok17
 have h1 := zK h0 h0 (p := ((12, 68), sLar)) wLar
 exact h1
noncomputable def Laf (x0 x1 x2 x3 x4 x5 x6 : Int) (x7 : Bool) (x8 : Bool) (x9 A B C D E F G I J K L M N O P Q R T U V W X Y x33 x34 x35 x36 x37 : Int) (x38 : (List (PKt × Int))) (x39 : (List (List (PKt × Int)))) : Option ((Int × (List PKt)) ⊕ (Int × (List (PKt × Int)))) := (cond (decide ((x38.length : Int) ≥ T)) (some (.inl (0, [(x1, x2, x3, x4, x5, x6, x7, x8)]))) (cond (ok (Lar x0 x1 x2 x3 x4 x5 x6 x7 x8 x9 A B C D E F G I J K L M N O P Q R T U V W X Y x33 x34 x35 x36 x37 x38 x39)) (some (.inr ((val (Lar x0 x1 x2 x3 x4 x5 x6 x7 x8 x9 A B C D E F G I J K L M N O P Q R T U V W X Y x33 x34 x35 x36 x37 x38 x39)).1, (val (Lar x0 x1 x2 x3 x4 x5 x6 x7 x8 x9 A B C D E F G I J K L M N O P Q R T U V W X Y x33 x34 x35 x36 x37 x38 x39)).2))) none))
noncomputable def xLaf (x0 x1 x2 x3 x4 x5 x6 : Int) (x7 : Bool) (x8 : Bool) (x9 A B C D E F G I J K L M N O P Q R T U V W X Y x33 x34 x35 x36 x37 : Int) (x38 : (List (PKt × Int))) (x39 : (List (List (PKt × Int)))) : ((Int × (List PKt)) ⊕ (Int × (List (PKt × Int)))) → Ex × CS := fun r => match r with | .inl a0 => (.ret, { sl := [(6, .l 6 0), (7, .v (.sc (.g 0))), (8, .v (.sc (I4 (a0.1))))], lo := [(6, [I4 (O), I4 (P), I4 (Q), I4 (R), I4 (T), .sc 1 (0) (1), I4 (U), I4 (V), I4 (W), I4 (X), I4 (Y), I4 (x33), I4 (x34), I4 (x35), .int .u64 (x36)])], h := [.row 30 PKy (a0.2 : List PKt), .crow 51 [.g 2], .row 55 QDy (x38)], n0 := 0, w := true }) | .inr b0 => (.ret, { sl := [(6, .l 6 0), (7, .v (.sc (.nil))), (8, .v (.sc (I4 (b0.1))))], lo := [(6, [I4 (O), I4 (P), I4 (Q), I4 (R), I4 (T), .sc 0 (0) (1), I4 (U), I4 (V), I4 (W), I4 (X), I4 (Y), I4 (x33), I4 (x34), I4 (x35), .int .u64 (x36)])], h := [.crow 51 [.g 1], .row 55 QDy (b0.2 : List (PKt × Int))], n0 := 0, w := true })
theorem bLaf (k : Nat) (cX : Ex → CS → Option (Ex × CS)) (x0 x1 x2 x3 x4 x5 x6 : Int) (x7 : Bool) (x8 : Bool) (x9 A B C D E F G I J K L M N O P Q R T U V W X Y x33 x34 x35 x36 x37 : Int) (x38 : (List (PKt × Int))) (x39 : (List (List (PKt × Int)))) : zo Try.prog (tn18 12) (TM.evF Try.prog (tn18) dOk (k + 40)) dOk (k + 40) (zh Try.prog (tn0 12) 12 52) 0 52 { sl := [(2, .v (.sc (I4 x0))), (3, .l 3 0), (4, .l 4 0), (6, .l 6 0), (9, .v (.sc (.ptr 0 0)))], lo := [(4, [I4 (x1), I4 (x2), I4 (x3), I4 (x4), I4 (x5), I4 (x6), .bool (x7), .bool (x8)]), (6, [I4 (x9), I4 (A), I4 (B), I4 (C), I4 (D), .g 3, I4 (E), I4 (F), I4 (G), I4 (I), I4 (J), I4 (K), I4 (L), I4 (M), .int .u64 (N)])], h := [.box 69 [I4 (O), I4 (P), I4 (Q), I4 (R), I4 (T), .sc 1 (0) (1), I4 (U), I4 (V), I4 (W), I4 (X), I4 (Y), I4 (x33), I4 (x34), I4 (x35), .int .u64 (x36), I4 (x37)], .crow 51 [.g 2], .row 55 QDy (x38), .row 51 (.list 55 QDy) (x39)], n0 := 0, w := false } cX = (cond (decide ((x38.length : Int) ≥ T)) (cX .ret { sl := [(6, .l 6 0), (7, .v (.sc (.g 0))), (8, .v (.sc (I4 (0))))], lo := [(6, [I4 (O), I4 (P), I4 (Q), I4 (R), I4 (T), .sc 1 (0) (1), I4 (U), I4 (V), I4 (W), I4 (X), I4 (Y), I4 (x33), I4 (x34), I4 (x35), .int .u64 (x36)])], h := [.row 30 PKy ([(x1, x2, x3, x4, x5, x6, x7, x8)] : List PKt), .crow 51 [.g 2], .row 55 QDy (x38)], n0 := 0, w := true }) (cond (ok (Lar x0 x1 x2 x3 x4 x5 x6 x7 x8 x9 A B C D E F G I J K L M N O P Q R T U V W X Y x33 x34 x35 x36 x37 x38 x39)) (cX .ret { sl := [(6, .l 6 0), (7, .v (.sc (.nil))), (8, .v (.sc (I4 (val (Lar x0 x1 x2 x3 x4 x5 x6 x7 x8 x9 A B C D E F G I J K L M N O P Q R T U V W X Y x33 x34 x35 x36 x37 x38 x39)).1)))], lo := [(6, [I4 (O), I4 (P), I4 (Q), I4 (R), I4 (T), .sc 0 (0) (1), I4 (U), I4 (V), I4 (W), I4 (X), I4 (Y), I4 (x33), I4 (x34), I4 (x35), .int .u64 (x36)])], h := [.crow 51 [.g 1], .row 55 QDy ((val (Lar x0 x1 x2 x3 x4 x5 x6 x7 x8 x9 A B C D E F G I J K L M N O P Q R T U V W X Y x33 x34 x35 x36 x37 x38 x39)).2 : List (PKt × Int))], n0 := 0, w := true }) none)) := by kernel_rfl
theorem lLaf (k : Nat) (x0 x1 x2 x3 x4 x5 x6 : Int) (x7 : Bool) (x8 : Bool) (x9 A B C D E F G I J K L M N O P Q R T U V W X Y x33 x34 x35 x36 x37 : Int) (x38 : (List (PKt × Int))) (x39 : (List (List (PKt × Int)))) (r : ((Int × (List PKt)) ⊕ (Int × (List (PKt × Int))))) : Laf x0 x1 x2 x3 x4 x5 x6 x7 x8 x9 A B C D E F G I J K L M N O P Q R T U V W X Y x33 x34 x35 x36 x37 x38 x39 = some r → zo Try.prog (tn18 12) (TM.evF Try.prog (tn18) dOk (k + 40)) dOk (k + 40) (zh Try.prog (tn0 12) 12 52) 0 52 { sl := [(2, .v (.sc (I4 x0))), (3, .l 3 0), (4, .l 4 0), (6, .l 6 0), (9, .v (.sc (.ptr 0 0)))], lo := [(4, [I4 (x1), I4 (x2), I4 (x3), I4 (x4), I4 (x5), I4 (x6), .bool (x7), .bool (x8)]), (6, [I4 (x9), I4 (A), I4 (B), I4 (C), I4 (D), .g 3, I4 (E), I4 (F), I4 (G), I4 (I), I4 (J), I4 (K), I4 (L), I4 (M), .int .u64 (N)])], h := [.box 69 [I4 (O), I4 (P), I4 (Q), I4 (R), I4 (T), .sc 1 (0) (1), I4 (U), I4 (V), I4 (W), I4 (X), I4 (Y), I4 (x33), I4 (x34), I4 (x35), .int .u64 (x36), I4 (x37)], .crow 51 [.g 2], .row 55 QDy (x38), .row 51 (.list 55 QDy) (x39)], n0 := 0, w := false } (fun e s => some (e, s)) = some (xLaf x0 x1 x2 x3 x4 x5 x6 x7 x8 x9 A B C D E F G I J K L M N O P Q R T U V W X Y x33 x34 x35 x36 x37 x38 x39 r) := by
 rw [bLaf]
 unfold Laf
 refine ze ?_ ?_
 intro h; cases h; rfl
 refine ze ?_ ?_
 intro h; cases h; rfl
 intro h; cases h
noncomputable def sLaf : TellS := fun S => dCS 0 S fun y1 y2 y3 => dSI 2 .i64 y1 fun x0 l4 => dSt 3 l4 fun y6 l5 => dL 3 0 y6 <| dSt 4 l5 fun y8 l7 => dL 4 0 y8 <| dSt 6 l7 fun y10 l9 => dL 6 0 y10 <| dSs 9 l9 fun y12 l11 => yY 0 0 y12 <| dE l11 <| dLo 4 y2 fun y13 l14 => dK y13 fun x1 l15 => dK l15 fun x2 l16 => dK l16 fun x3 l17 => dK l17 fun x4 l18 => dK l18 fun x5 l19 => dK l19 fun x6 l20 => dC l20 fun y21 l22 => zA y21 fun x7 => dC l22 fun y23 l24 => zA y23 fun x8 => dE l24 <| dLo 6 l14 fun y25 l26 => dK y25 fun x9 l27 => dK l27 fun A l28 => dK l28 fun B l29 => dK l29 fun C l30 => dK l30 fun D l31 => dC l31 fun y32 l33 => dG 3 y32 <| dK l33 fun E l34 => dK l34 fun F l35 => dK l35 fun G l36 => dK l36 fun I l37 => dK l37 fun J l38 => dK l38 fun K l39 => dK l39 fun L l40 => dK l40 fun M l41 => dCI .u64 l41 fun N l42 => dE l42 <| dE l26 <| dHB 69 y3 fun y44 l43 => dK y44 fun O l45 => dK l45 fun P l46 => dK l46 fun Q l47 => dK l47 fun R l48 => dK l48 fun T l49 => dC l49 fun y50 l51 => dSc 1 y50 fun y52 y53 => dN y52 0 <| dN y53 1 <| dK l51 fun U l54 => dK l54 fun V l55 => dK l55 fun W l56 => dK l56 fun X l57 => dK l57 fun Y l58 => dK l58 fun x33 l59 => dK l59 fun x34 l60 => dK l60 fun x35 l61 => dCI .u64 l61 fun x36 l62 => dK l62 fun x37 l63 => dE l63 <| dC l43 fun y65 l64 => wt 51 y65 fun y66 => dC y66 fun y67 l68 => dG 2 y67 <| dE l68 <| dHR 55 QDy l64 fun x38 l69 => dHR 51 (.list 55 QDy) l69 fun x39 l70 => dE l70 <|  some [(isL (Laf x0 x1 x2 x3 x4 x5 x6 x7 x8 x9 A B C D E F G I J K L M N O P Q R T U V W X Y x33 x34 x35 x36 x37 x38 x39), .ret, { sl := [(6, .l 6 0), (7, .v (.sc (.g 0))), (8, .v (.sc (I4 ((zb (Laf x0 x1 x2 x3 x4 x5 x6 x7 x8 x9 A B C D E F G I J K L M N O P Q R T U V W X Y x33 x34 x35 x36 x37 x38 x39)).1))))], lo := [(6, [I4 (O), I4 (P), I4 (Q), I4 (R), I4 (T), .sc 1 (0) (1), I4 (U), I4 (V), I4 (W), I4 (X), I4 (Y), I4 (x33), I4 (x34), I4 (x35), .int .u64 (x36)])], h := [.row 30 PKy ((zb (Laf x0 x1 x2 x3 x4 x5 x6 x7 x8 x9 A B C D E F G I J K L M N O P Q R T U V W X Y x33 x34 x35 x36 x37 x38 x39)).2 : List PKt), .crow 51 [.g 2], .row 55 QDy (x38)], n0 := 0, w := true }), (ok (za (Laf x0 x1 x2 x3 x4 x5 x6 x7 x8 x9 A B C D E F G I J K L M N O P Q R T U V W X Y x33 x34 x35 x36 x37 x38 x39)), .ret, { sl := [(6, .l 6 0), (7, .v (.sc (.nil))), (8, .v (.sc (I4 ((val (za (Laf x0 x1 x2 x3 x4 x5 x6 x7 x8 x9 A B C D E F G I J K L M N O P Q R T U V W X Y x33 x34 x35 x36 x37 x38 x39))).1))))], lo := [(6, [I4 (O), I4 (P), I4 (Q), I4 (R), I4 (T), .sc 0 (0) (1), I4 (U), I4 (V), I4 (W), I4 (X), I4 (Y), I4 (x33), I4 (x34), I4 (x35), .int .u64 (x36)])], h := [.crow 51 [.g 1], .row 55 QDy ((val (za (Laf x0 x1 x2 x3 x4 x5 x6 x7 x8 x9 A B C D E F G I J K L M N O P Q R T U V W X Y x33 x34 x35 x36 x37 x38 x39))).2 : List (PKt × Int))], n0 := 0, w := true })]
theorem wLaf : zG Try.prog dOk base o18 t18 ((12, 52), sLaf) := by
 refine ⟨(zh Try.prog (tn0 12) 12 52), 0, by kernel_rfl, ?_⟩
 intro S alts e S' h10 h2
 have h1 : sLaf S = some alts := h10
 clear h10
 unfold sLaf at h1
 replace h1 := yN h1; obtain ⟨_, _, _, rfl, h1⟩ := h1
 replace h1 := xp h1; obtain ⟨_, _, rfl, h1⟩ := h1
 replace h1 := zd h1; obtain ⟨_, _, rfl, h1⟩ := h1
 replace h1 := dLq h1; obtain ⟨rfl, h1⟩ := h1
 replace h1 := zd h1; obtain ⟨_, _, rfl, h1⟩ := h1
 replace h1 := dLq h1; obtain ⟨rfl, h1⟩ := h1
 replace h1 := zd h1; obtain ⟨_, _, rfl, h1⟩ := h1
 replace h1 := dLq h1; obtain ⟨rfl, h1⟩ := h1
 replace h1 := yf h1; obtain ⟨_, _, rfl, h1⟩ := h1
 replace h1 := yD h1; obtain ⟨rfl, h1⟩ := h1
 replace h1 := dEq h1; obtain ⟨rfl, h1⟩ := h1
 replace h1 := zQ h1; obtain ⟨_, _, rfl, h1⟩ := h1
 replace h1 := dJ6 h1; obtain ⟨_, _, _, _, _, _, _, rfl, h1⟩ := h1
 replace h1 := dCq h1; obtain ⟨_, _, rfl, h1⟩ := h1
 replace h1 := zr h1; obtain ⟨_, rfl, h1⟩ := h1
 replace h1 := dCq h1; obtain ⟨_, _, rfl, h1⟩ := h1
 replace h1 := zr h1; obtain ⟨_, rfl, h1⟩ := h1
 replace h1 := dEq h1; obtain ⟨rfl, h1⟩ := h1
 replace h1 := zQ h1; obtain ⟨_, _, rfl, h1⟩ := h1
 replace h1 := dJ5 h1; obtain ⟨_, _, _, _, _, _, rfl, h1⟩ := h1
 replace h1 := dCq h1; obtain ⟨_, _, rfl, h1⟩ := h1
 replace h1 := dGq h1; obtain ⟨rfl, h1⟩ := h1
 replace h1 := dJ9 h1; obtain ⟨_, _, _, _, _, _, _, _, _, _, rfl, h1⟩ := h1
 replace h1 := dEq h1; obtain ⟨rfl, h1⟩ := h1
 replace h1 := dEq h1; obtain ⟨rfl, h1⟩ := h1
 replace h1 := xz h1; obtain ⟨_, _, rfl, h1⟩ := h1
 replace h1 := dJ5 h1; obtain ⟨_, _, _, _, _, _, rfl, h1⟩ := h1
 replace h1 := dCq h1; obtain ⟨_, _, rfl, h1⟩ := h1
 replace h1 := ZS h1; obtain ⟨_, _, rfl, h1⟩ := h1
 replace h1 := dNq h1; obtain ⟨rfl, h1⟩ := h1
 replace h1 := dNq h1; obtain ⟨rfl, h1⟩ := h1
 replace h1 := dJ9 h1; obtain ⟨_, _, _, _, _, _, _, _, _, _, rfl, h1⟩ := h1
 replace h1 := zC h1; obtain ⟨_, _, rfl, h1⟩ := h1
 replace h1 := dEq h1; obtain ⟨rfl, h1⟩ := h1
 replace h1 := dCq h1; obtain ⟨_, _, rfl, h1⟩ := h1
 replace h1 := xQ h1; obtain ⟨_, rfl, h1⟩ := h1
 replace h1 := dCq h1; obtain ⟨_, _, rfl, h1⟩ := h1
 replace h1 := dGq h1; obtain ⟨rfl, h1⟩ := h1
 replace h1 := dEq h1; obtain ⟨rfl, h1⟩ := h1
 replace h1 := yE h1; obtain ⟨_, _, rfl, h1⟩ := h1
 replace h1 := yE h1; obtain ⟨_, _, rfl, h1⟩ := h1
 replace h1 := dEq h1; obtain ⟨rfl, h1⟩ := h1
 cases h1
 rcases yq h2 with ⟨hc0, rfl, rfl⟩ | h2
 · exact ⟨0 + 40, (zy rfl).trans (lLaf 0 _ _ _ _ _ _ _ _ _ _ _ _ _ _ _ _ _ _ _ _ _ _ _ _ _ _ _ _ _ _ _ _ _ _ _ _ _ _ _ _ _ (yO hc0))⟩
 obtain ⟨hc1, rfl, rfl⟩ := zH h2
 exact ⟨0 + 40, (zy rfl).trans (lLaf 0 _ _ _ _ _ _ _ _ _ _ _ _ _ _ _ _ _ _ _ _ _ _ _ _ _ _ _ _ _ _ _ _ _ _ _ _ _ _ _ _ _ (yp (zk hc1)))⟩
noncomputable def o19 : OrcT := o18
noncomputable def t19 : TellT := ((12, 52), sLaf) :: t18
noncomputable abbrev tn19 : FuncId → TAn := zj base o19 t19
theorem ok19 : TnOk Try.prog tn19 (mkA base) dOk := by
 have h0 : TnOk Try.prog (tn18) (mkA base) dOk := ok18
 have h1 := zK h0 h0 (p := ((12, 52), sLaf)) wLaf
 exact h1
end Go.Proofs.Ythbinbcgjhnijaa
