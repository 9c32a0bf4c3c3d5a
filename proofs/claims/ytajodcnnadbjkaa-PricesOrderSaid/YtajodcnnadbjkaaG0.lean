/- What the machines are told of each function. Written by a program of ours. -/
import Derived.Test.YtajodcnnadbjkaaB7
import Derived.Test.YtajodcnnadbjkaaProg
import Derived.KernelRfl
set_option linter.all false
set_option linter.constructorNameAsVariable false
set_option linter.unnecessarySimpa false
set_option linter.unusedSimpArgs false
set_option linter.unusedVariables false
set_option maxRecDepth 1000000
set_option linter.unusedVariables false
set_option maxHeartbeats 4000000
namespace Go.Proofs.Ytajodcnnadbjkaa
open Go Go.AM Go.TM Go.Proofs
def base : List (FuncId × TAn) := [
  (2, { a := { loc := [], keep := [] }, own := false, crow := [], cuts := [], live := [], coe := [], nt := 1 }),
  (3, { a := { loc := [4, 14], keep := [], keepR := [(0, [1, 2, 3, 4]), (1, [1, 2, 3, 4, 9]), (2, [1, 2, 3, 4, 9, 20]), (3, [8]), (4, [1, 2, 3, 4, 9, 10, 11]), (5, [1, 2, 3, 4, 9, 10, 11, 12, 13]), (6, [4, 9, 10, 11, 12, 13, 14]), (7, [8])], ro := [14, 16] }, own := false, crow := [], cuts := [4], live := [(36, [1, 2, 3, 4, 9], [4]), (37, [8], []), (38, [8], []), (39, [8], [])], coe := [(36, [((0, 1, 0), 22, true), ((0, 2, 0), 3, true), ((1, 4, 0), 3, true), ((1, 4, 1), 26, true)])], nt := 67 }),
  (4, { a := { loc := [4], keep := [], keepR := [(0, [1, 2, 3, 4]), (1, [1, 2, 3, 4, 9]), (2, [1, 2, 3, 4, 9, 18]), (3, [8]), (4, [1, 2, 3, 4, 9, 10, 11]), (5, [1, 2, 3, 4, 9, 10, 11, 12]), (6, [1, 2, 3, 4, 9, 10, 12, 34]), (7, [8]), (8, [8])] }, own := false, crow := [], cuts := [4, 8], live := [(36, [1, 2, 3, 4, 9], [4]), (37, [8], []), (38, [8], []), (39, [8], []), (68, [1, 2, 3, 4, 9, 10, 12], [4]), (69, [8], []), (70, [8], []), (71, [8], [])], coe := [(36, [((0, 1, 0), 22, true), ((0, 2, 0), 3, true), ((1, 4, 0), 3, true), ((1, 4, 1), 26, true)]), (68, [((0, 1, 0), 22, true), ((0, 2, 0), 3, true), ((1, 4, 0), 3, true), ((1, 4, 1), 26, true)])], nt := 64 }),
  (5, { a := { loc := [3, 4, 13, 15, 38, 61, 83, 87], keep := [(0, [2, 3, 4, 7, 8, 57, 58], [3, 4])], keepR := [(0, [2, 3, 4]), (1, [2, 3, 4, 7]), (2, [2, 3, 4, 7, 54]), (3, [6]), (4, [2, 3, 4, 7, 8]), (5, [2, 3, 4, 7, 8, 57, 58]), (6, [2, 3, 4, 7, 8, 57, 58, 59]), (7, [2, 3, 4, 7, 8, 9, 57, 58]), (8, [2, 3, 4, 7, 8, 9, 10, 57, 58]), (9, [2, 3, 4, 7, 8, 9, 10, 57, 58, 68]), (10, [6]), (11, [2, 3, 4, 7, 8, 57, 58]), (12, [2, 3, 4, 7, 8, 57, 58]), (13, [6])] }, own := false, crow := [], cuts := [5, 8, 11], live := [(0, [2, 3, 4, 7, 8, 57, 58], [3, 4]), (2, [3, 4, 7, 8], [3, 4]), (3, [6], []), (44, [2, 3, 4, 7, 8], [3, 4]), (45, [6], []), (46, [6], []), (47, [6], []), (68, [2, 3, 4, 7, 8, 9, 57, 58], [3, 4]), (69, [2, 3, 4, 7, 8, 57, 58], [3, 4]), (70, [2, 3, 4, 7, 8, 57, 58], [3, 4]), (71, [6], []), (92, [2, 3, 4, 7, 8, 9, 10, 57, 58], [3, 4]), (93, [2, 3, 4, 7, 8, 57, 58], [3, 4]), (94, [2, 3, 4, 7, 8, 57, 58], [3, 4]), (95, [6], [])], coe := [(0, [((0, 2, 0), 22, true), ((1, 3, 0), 3, true), ((1, 3, 1), 26, true), ((1, 4, 0), 22, true), ((1, 4, 1), 3, true)]), (44, [((0, 2, 0), 22, true), ((1, 3, 0), 3, true), ((1, 3, 1), 26, true), ((1, 4, 0), 22, true), ((1, 4, 1), 3, true)]), (68, [((0, 2, 0), 22, true), ((1, 3, 0), 3, true), ((1, 3, 1), 26, true), ((1, 4, 0), 22, true), ((1, 4, 1), 3, true)]), (92, [((0, 2, 0), 22, true), ((1, 3, 0), 3, true), ((1, 3, 1), 26, true), ((1, 4, 0), 22, true), ((1, 4, 1), 3, true)])], nt := 92 }),
  (6, { a := { loc := [4, 14, 29, 43, 45, 59, 62, 70, 78, 76, 87], keep := [(0, [1, 2, 3, 9, 10, 11, 12, 13, 14, 15, 63, 64, 65], [14])], keepR := [(0, [1, 2, 3, 4]), (1, [1, 2, 3, 4, 9]), (2, [1, 2, 3, 4, 9, 33]), (3, [8]), (4, [1, 2, 3, 4, 9, 10, 11]), (5, [1, 2, 3, 4, 9, 10, 11, 12, 13]), (6, [1, 2, 3, 4, 9, 10, 11, 12, 13, 14]), (7, [1, 2, 3, 4, 9, 10, 11, 12, 13, 14, 15]), (8, [1, 2, 3, 9, 10, 11, 12, 13, 14, 15, 63, 64, 65]), (9, [1, 2, 3, 9, 10, 11, 12, 13, 14, 15, 63, 64, 65, 66]), (10, [1, 2, 3, 9, 10, 11, 12, 13, 14, 15, 16, 17, 63, 64, 65]), (11, [1, 2, 3, 9, 10, 11, 12, 13, 14, 15, 16, 17, 63, 64, 65]), (12, [1, 2, 3, 9, 10, 11, 12, 13, 14, 15, 16, 17, 63, 64, 65]), (13, [1, 2, 3, 9, 10, 11, 12, 13, 14, 15, 63, 64, 65, 96]), (14, [8]), (15, [1, 2, 3, 9, 10, 11, 12, 13, 14, 15, 63, 64, 65]), (16, [9, 10, 11, 12, 13, 18, 19]), (17, [8])], rt := [(70, 14), (78, 14)] }, own := false, crow := [], cuts := [4, 11], live := [(0, [1, 2, 3, 9, 10, 11, 12, 13, 14, 15, 63, 64, 65], [14]), (2, [2, 9, 10, 11, 12, 13, 14, 15], [14]), (3, [8], []), (36, [1, 2, 3, 4, 9], [4]), (37, [8], []), (38, [8], []), (39, [8], []), (92, [1, 2, 3, 9, 10, 11, 12, 13, 14, 15, 16, 17, 63, 64, 65], [14]), (93, [1, 2, 3, 9, 10, 11, 12, 13, 14, 15, 63, 64, 65], [14]), (94, [1, 2, 3, 9, 10, 11, 12, 13, 14, 15, 63, 64, 65], [14]), (95, [8], [])], coe := [(0, [((0, 1, 0), 22, true), ((0, 2, 0), 3, true), ((0, 15, 0), 22, true), ((0, 63, 0), 26, true), ((1, 14, 0), 3, true), ((1, 14, 1), 26, true)]), (36, [((0, 1, 0), 22, true), ((0, 2, 0), 3, true), ((1, 4, 0), 3, true), ((1, 4, 1), 26, true)]), (92, [((0, 1, 0), 22, true), ((0, 2, 0), 3, true), ((0, 15, 0), 22, true), ((0, 17, 0), 22, true), ((0, 63, 0), 26, true), ((1, 14, 0), 3, true), ((1, 14, 1), 26, true)])], nt := 135 }),
  (7, { a := { loc := [6, 60, 66, 88, 73, 85], keep := [(0, [1, 2, 5, 6, 13, 18, 19, 95, 96, 97], [6])], keepR := [(0, [1, 2, 3, 4, 5, 6]), (1, [1, 2, 3, 4, 5, 6, 13]), (2, [1, 2, 3, 4, 5, 6, 13, 31]), (3, [12]), (4, [1, 2, 3, 4, 5, 6, 13, 15]), (5, [1, 2, 3, 4, 5, 6, 13, 41]), (6, [12]), (7, [1, 2, 3, 4, 5, 6, 13, 57]), (8, [12]), (9, [1, 2, 4, 5, 6, 13, 16]), (10, [1, 2, 5, 6, 13, 16, 17]), (11, [1, 2, 5, 6, 13, 16, 17, 18]), (12, [1, 2, 5, 6, 13, 16, 17, 18]), (13, [1, 2, 5, 6, 13, 16, 17, 18, 19]), (14, [1, 2, 5, 6, 13, 18, 19, 95, 96, 97]), (15, [1, 2, 5, 6, 13, 18, 19, 95, 96, 97, 98]), (16, [1, 2, 5, 6, 13, 18, 19, 21, 95, 96, 97]), (17, [1, 2, 5, 6, 13, 18, 19, 95, 96, 97]), (18, [1, 2, 5, 6, 13, 18, 19, 95, 96, 97]), (19, [1, 2, 5, 6, 13, 18, 19, 23]), (20, [1, 2, 5, 6, 13, 18, 19, 23, 25]), (21, [12])], hst := [84, 103] }, own := false, crow := [], cuts := [4, 7, 9], live := [(0, [1, 2, 5, 6, 13, 18, 19, 95, 96, 97], [6]), (2, [1, 2, 5, 6, 13, 18, 19], [6]), (3, [12], []), (36, [1, 2, 3, 4, 5, 6, 13], [6]), (37, [12], []), (38, [12], []), (39, [12], []), (60, [1, 2, 3, 4, 5, 6, 13], [6]), (61, [12], []), (62, [12], []), (63, [12], []), (76, [1, 2, 3, 4, 5, 6, 13], [6]), (77, [12], []), (78, [12], []), (79, [12], [])], coe := [(0, [((0, 1, 0), 22, true), ((0, 2, 0), 3, true), ((0, 18, 0), 22, true), ((0, 19, 0), 3, true), ((0, 95, 0), 3, true), ((1, 6, 0), 3, true), ((1, 6, 1), 26, true)]), (36, [((0, 1, 0), 22, true), ((0, 2, 0), 3, true), ((1, 6, 0), 3, true), ((1, 6, 1), 26, true)]), (60, [((0, 1, 0), 22, true), ((0, 2, 0), 3, true), ((1, 6, 0), 3, true), ((1, 6, 1), 26, true)]), (76, [((0, 1, 0), 22, true), ((0, 2, 0), 3, true), ((1, 6, 0), 3, true), ((1, 6, 1), 26, true)])], nt := 146 }),
  (8, { a := { loc := [6, 54, 60, 68, 90, 95, 113, 121, 59, 66, 72, 75, 94], keep := [], keepR := [(0, [1, 2, 3, 4, 5, 6]), (1, [1, 2, 3, 4, 5, 6, 13]), (2, [1, 2, 3, 4, 5, 6, 13, 45]), (3, [12]), (4, [1, 2, 3, 4, 5, 6, 13, 14, 15]), (5, [1, 2, 3, 4, 5, 6, 13, 14, 15, 57]), (6, [1, 2, 3, 4, 6, 13, 14, 15, 16, 17]), (7, [1, 2, 3, 4, 6, 13, 14, 15, 87]), (8, [12]), (9, [1, 2, 4, 6, 13, 14, 15, 18]), (10, [1, 2, 4, 6, 13, 14, 15, 18, 19]), (11, [1, 2, 6, 13, 14, 15, 18, 19]), (12, [1, 2, 6, 13, 14, 15, 18, 19, 20]), (13, [2, 13, 14, 15, 18, 20, 21, 22]), (14, [2, 13, 14, 15, 18, 20, 21, 22, 130]), (15, [12]), (16, [12])], hst := [108] }, own := false, crow := [], cuts := [4, 7, 9, 16], live := [(36, [1, 2, 3, 4, 5, 6, 13], [6]), (37, [12], []), (38, [12], []), (39, [12], []), (60, [1, 2, 3, 4, 6, 13, 14, 15, 16, 17], [6]), (61, [1, 2, 3, 4, 6, 13, 14, 15], [6]), (62, [1, 2, 3, 4, 6, 13, 14, 15], [6]), (63, [12], []), (76, [1, 2, 3, 4, 6, 13, 14, 15], [6]), (77, [12], []), (78, [12], []), (79, [12], []), (132, [2, 13, 14, 18, 20, 21, 22], []), (133, [12], []), (134, [12], []), (135, [12], [])], coe := [(36, [((0, 1, 0), 22, true), ((0, 2, 0), 3, true), ((1, 6, 0), 3, true), ((1, 6, 1), 26, true)]), (60, [((0, 1, 0), 22, true), ((0, 2, 0), 3, true), ((1, 6, 0), 3, true), ((1, 6, 1), 26, true)]), (76, [((0, 1, 0), 22, true), ((0, 2, 0), 3, true), ((1, 6, 0), 3, true), ((1, 6, 1), 26, true)]), (132, [((0, 2, 0), 3, true)])], nt := 177 }),
  (9, { a := { loc := [2], keep := [] }, own := false, crow := [], cuts := [], live := [], coe := [], nt := 39 }),
  (10, { a := { loc := [3, 10, 15, 31, 37, 45, 54], keep := [(0, [1, 3, 7], [3]), (2, [1, 3, 7, 8], [3]), (4, [1, 9], [])] }, own := false, crow := [], cuts := [], live := [(0, [1, 3, 7], [3]), (2, [1], []), (3, [6], []), (16, [1, 3, 7, 8], [3]), (18, [1, 3, 7], [3]), (19, [6], []), (32, [1, 9], []), (34, [], []), (35, [6], [])], coe := [(0, [((0, 1, 0), 22, true), ((1, 3, 0), 3, true), ((1, 3, 1), 26, true)]), (16, [((0, 1, 0), 22, true), ((1, 3, 0), 3, true), ((1, 3, 1), 26, true)]), (32, [((0, 1, 0), 22, true)])], nt := 76 }),
  (11, { a := { loc := [3, 29], keep := [], ro := [28] }, own := false, crow := [], cuts := [], live := [], coe := [], nt := 38 }),
  (12, { a := { loc := [3, 32], keep := [], ro := [30] }, own := false, crow := [], cuts := [], live := [], coe := [], nt := 41 }),
  (13, { a := { loc := [], keep := [] }, own := false, crow := [], cuts := [], live := [], coe := [], nt := 24 }),
  (14, { a := { loc := [1, 7, 12, 18, 24, 30, 36, 43, 51, 57, 80], keep := [(0, [1, 3], [1]), (2, [1, 4], [1]), (4, [1, 4, 5, 6], [1])], hst := [78], ro := [39] }, own := false, crow := [], cuts := [], live := [(0, [1, 3], [1]), (2, [1], [1]), (3, [2], []), (16, [1, 4], [1]), (18, [], []), (19, [2], []), (32, [1, 4, 5, 6], [1]), (34, [1, 4], [1]), (35, [2], [])], coe := [(0, [((1, 1, 0), 3, true), ((1, 1, 1), 26, true)]), (16, [((1, 1, 0), 3, true), ((1, 1, 1), 26, true)]), (32, [((0, 5, 0), 22, true), ((1, 1, 0), 3, true), ((1, 1, 1), 26, true)])], nt := 85 }),
  (15, { a := { loc := [2, 3, 9, 11, 19], keep := [] }, own := false, crow := [], cuts := [], live := [], coe := [], nt := 24 }),
  (16, { a := { loc := [2, 3, 10, 17, 23, 28, 33, 35, 40, 43, 47], keep := [], ro := [14, 17, 23, 29, 30] }, own := false, crow := [], cuts := [], live := [], coe := [], nt := 52 }),
  (17, { a := { loc := [2, 9, 24], keep := [(0, [1, 2, 5], [2]), (2, [1, 2, 5, 6], [2])], hst := [21, 27] }, own := false, crow := [], cuts := [], live := [(0, [1, 2, 5], [2]), (2, [], []), (3, [4], []), (16, [1, 2, 5, 6], [2]), (18, [1, 2, 5], [2]), (19, [4], [])], coe := [(0, [((0, 1, 0), 22, true), ((1, 2, 0), 3, true), ((1, 2, 1), 26, true)]), (16, [((0, 1, 0), 22, true), ((1, 2, 0), 3, true), ((1, 2, 1), 26, true)])], nt := 58 }),
  (18, { a := { loc := [2, 7, 17], keep := [(0, [1, 2, 5], [2])], hst := [20], ro := [40] }, own := false, crow := [], cuts := [], live := [(0, [1, 2, 5], [2]), (2, [], []), (3, [4], [])], coe := [(0, [((0, 1, 0), 22, true), ((1, 2, 0), 3, true), ((1, 2, 1), 26, true)])], nt := 24 }),
  (19, { a := { loc := [], keep := [(0, [0, 3, 4], [])] }, own := false, crow := [], cuts := [], live := [(0, [0, 3, 4], []), (2, [3], []), (3, [2], [])], coe := [(0, [((0, 0, 0), 3, true)])], nt := 18 }),
  (20, { a := { loc := [13], keep := [] }, own := false, crow := [], cuts := [], live := [], coe := [], nt := 22 }),
  (21, { a := { loc := [13], keep := [] }, own := false, crow := [], cuts := [], live := [], coe := [], nt := 22 }),
  (22, { a := { loc := [13], keep := [] }, own := false, crow := [], cuts := [], live := [], coe := [], nt := 22 }),
  (23, { a := { loc := [2, 26], keep := [(0, [1, 2, 5], [2])] }, own := false, crow := [], cuts := [], live := [(0, [1, 2, 5], [2]), (2, [1, 2], [2]), (3, [4], [])], coe := [(0, [((0, 1, 0), 3, true), ((1, 2, 0), 3, true), ((1, 2, 1), 26, true)])], nt := 30 }),
  (24, { a := { loc := [], keep := [] }, own := false, crow := [], cuts := [], live := [], coe := [], nt := 33 }),
  (25, { a := { loc := [0], keep := [] }, own := false, crow := [], cuts := [], live := [], coe := [], nt := 8 }),
  (26, { a := { loc := [3, 11, 18, 32], keep := [(0, [2, 3, 23, 24, 25], [3])] }, own := false, crow := [], cuts := [], live := [(0, [2, 3, 23, 24, 25], [3]), (2, [2], []), (3, [6], [])], coe := [(0, [((0, 2, 0), 3, true), ((0, 23, 0), 22, true), ((1, 3, 0), 3, true), ((1, 3, 1), 26, true)])], nt := 47 }),
  (27, { a := { loc := [3, 10, 16, 20, 24, 37, 41, 52, 65, 78], keep := [(2, [7, 10, 42, 43, 44], [10]), (4, [1, 3, 5, 6, 8, 57, 58, 59], [3]), (8, [5, 6, 8, 15, 17, 79, 80, 81], [])], hst := [7, 8, 35, 40, 50, 55], rt := [(20, 3), (24, 3), (37, 10), (52, 10)] }, own := false, crow := [], cuts := [], live := [(16, [7, 10, 42, 43, 44], [10]), (18, [], []), (19, [6], []), (32, [1, 3, 5, 6, 8, 57, 58, 59], [3]), (34, [1, 3, 5, 6, 8], [3]), (35, [6], []), (64, [5, 6, 8, 15, 17, 79, 80, 81], []), (66, [6, 8, 15, 17], []), (67, [6], []), (41, [7, 8], []), (161, [5, 6, 8], [])], coe := [(16, [((0, 42, 0), 3, true), ((1, 10, 0), 3, true)]), (32, [((0, 1, 0), 22, true), ((0, 57, 0), 3, true), ((1, 3, 0), 3, true), ((1, 3, 1), 26, true)]), (64, [((0, 79, 0), 3, true)])], nt := 106 }),
  (28, { a := { loc := [2, 17], keep := [(0, [2, 5, 8, 9, 10], [2])] }, own := false, crow := [], cuts := [], live := [(0, [2, 5, 8, 9, 10], [2]), (2, [5], []), (3, [4], [])], coe := [(0, [((0, 8, 0), 3, true), ((1, 2, 0), 3, true), ((1, 2, 1), 26, true)])], nt := 26 }),
  (29, { a := { loc := [3, 16, 35, 44], keep := [(0, [1, 2, 3, 7], [3]), (2, [1, 2, 3, 7, 9, 10], [3])], ro := [18, 19, 44] }, own := false, crow := [], cuts := [], live := [(0, [1, 2, 3, 7], [3]), (2, [], []), (3, [6], []), (16, [1, 2, 3, 7, 9, 10], [3]), (18, [1, 2, 3, 7], [3]), (19, [6], [])], coe := [(0, [((0, 1, 0), 22, true), ((0, 2, 0), 3, true), ((1, 3, 0), 3, true), ((1, 3, 1), 26, true)]), (16, [((0, 1, 0), 22, true), ((0, 2, 0), 3, true), ((1, 3, 0), 3, true), ((1, 3, 1), 26, true)])], nt := 56 }),
  (30, { a := { loc := [2, 18], keep := [(0, [1, 2, 5, 6], [2])] }, own := false, crow := [], cuts := [], live := [(0, [1, 2, 5, 6], [2]), (2, [5], []), (3, [4], [])], coe := [(0, [((0, 1, 0), 3, true), ((1, 2, 0), 3, true), ((1, 2, 1), 26, true)])], nt := 26 }),
  (31, { a := { loc := [], keep := [] }, own := false, crow := [], cuts := [], live := [], coe := [], nt := 15 }),
  (32, { a := { loc := [], keep := [] }, own := false, crow := [], cuts := [], live := [], coe := [], nt := 9 }),
  (33, { a := { loc := [], keep := [] }, own := false, crow := [], cuts := [], live := [], coe := [], nt := 5 }),
  (34, { a := { loc := [], keep := [] }, own := false, crow := [], cuts := [], live := [], coe := [], nt := 9 }),
  (35, { a := { loc := [], keep := [] }, own := false, crow := [], cuts := [], live := [], coe := [], nt := 12 }),
  (36, { a := { loc := [], keep := [] }, own := false, crow := [], cuts := [], live := [], coe := [], nt := 9 }),
  (37, { a := { loc := [], keep := [] }, own := false, crow := [], cuts := [], live := [], coe := [], nt := 9 }),
  (38, { a := { loc := [], keep := [(0, [0, 1, 5, 8, 9, 10], [])] }, own := false, crow := [], cuts := [], live := [(0, [0, 1, 5, 8, 9, 10], []), (2, [0], []), (3, [4], [])], coe := [(0, [((0, 0, 0), 3, true), ((0, 8, 0), 3, true)])], nt := 27 }),
  (39, { a := { loc := [], keep := [(0, [0, 1, 5], [])] }, own := false, crow := [], cuts := [], live := [(0, [0, 1, 5], []), (2, [0], []), (3, [4], [])], coe := [(0, [((0, 0, 0), 3, true)])], nt := 49 }),
  (40, { a := { loc := [3, 11, 18, 27], keep := [(0, [1, 2, 3, 7, 8], [3]), (2, [1, 2, 3, 7, 8, 9], [3])], ro := [51] }, own := false, crow := [], cuts := [], live := [(0, [1, 2, 3, 7, 8], [3]), (2, [7], []), (3, [6], []), (16, [1, 2, 3, 7, 8, 9], [3]), (18, [1, 2, 3, 7, 8], [3]), (19, [6], [])], coe := [(0, [((0, 1, 0), 22, true), ((1, 3, 0), 3, true), ((1, 3, 1), 26, true)]), (16, [((0, 1, 0), 22, true), ((1, 3, 0), 3, true), ((1, 3, 1), 26, true)])], nt := 47 }),
  (41, { a := { loc := [], keep := [] }, own := false, crow := [], cuts := [], live := [], coe := [], nt := 5 }),
  (42, { a := { loc := [], keep := [] }, own := false, crow := [], cuts := [], live := [], coe := [], nt := 5 }),
  (43, { a := { loc := [], keep := [] }, own := false, crow := [], cuts := [], live := [], coe := [], nt := 6 }),
  (44, { a := { loc := [], keep := [(0, [0, 1, 5, 6], [])] }, own := false, crow := [], cuts := [], live := [(0, [0, 1, 5, 6], []), (2, [5], []), (3, [4], [])], coe := [(0, [((0, 0, 0), 3, true), ((0, 1, 0), 3, true)])], nt := 23 }),
  (45, { a := { loc := [], keep := [] }, own := false, crow := [], cuts := [], live := [], coe := [], nt := 9 }),
  (46, { a := { loc := [], keep := [] }, own := false, crow := [], cuts := [], live := [], coe := [], nt := 8 }),
  (47, { a := { loc := [], keep := [] }, own := false, crow := [], cuts := [], live := [], coe := [], nt := 9 }),
  (48, { a := { loc := [], keep := [] }, own := false, crow := [], cuts := [], live := [], coe := [], nt := 8 }),
  (49, { a := { loc := [], keep := [] }, own := false, crow := [], cuts := [], live := [], coe := [], nt := 9 }),
  (50, { a := { loc := [], keep := [] }, own := false, crow := [], cuts := [], live := [], coe := [], nt := 8 }),
  (51, { a := { loc := [], keep := [(0, [0, 1, 5], [])] }, own := false, crow := [], cuts := [], live := [(0, [0, 1, 5], []), (2, [], []), (3, [4], [])], coe := [(0, [((0, 0, 0), 3, true)])], nt := 18 }),
  (52, { a := { loc := [], keep := [(0, [0, 2, 9, 10, 11], []), (2, [0, 2, 4, 9, 10, 11, 16, 17, 18], [])] }, own := false, crow := [], cuts := [], live := [(0, [0, 2, 9, 10, 11], []), (2, [], []), (3, [], []), (16, [0, 2, 4, 9, 10, 11, 16, 17, 18], []), (18, [0, 2, 9, 10, 11], []), (19, [], [])], coe := [(0, [((0, 9, 0), 26, true)]), (16, [((0, 9, 0), 26, true), ((0, 16, 0), 22, true)])], nt := 38 }),
  (53, { a := { loc := [], keep := [(0, [0, 1, 7, 8], [])] }, own := false, crow := [], cuts := [], live := [(0, [0, 1, 7, 8], []), (2, [], []), (3, [4], [])], coe := [(0, [((0, 0, 0), 3, true)])], nt := 19 }),
  (54, { a := { loc := [], keep := [(0, [0, 1, 7, 8], [])] }, own := false, crow := [], cuts := [], live := [(0, [0, 1, 7, 8], []), (2, [], []), (3, [4], [])], coe := [(0, [((0, 0, 0), 26, true)])], nt := 19 }),
  (55, { a := { loc := [], keep := [(0, [0, 1, 7, 8], [])] }, own := false, crow := [], cuts := [], live := [(0, [0, 1, 7, 8], []), (2, [], []), (3, [4], [])], coe := [(0, [((0, 0, 0), 22, true)])], nt := 19 })]
def o0 : OrcT := []
def t0 : TellT := []
noncomputable abbrev tn0 : FuncId → TAn := mkTn base o0 t0
theorem names : plainNames Try.prog = true := by kernel_rfl
theorem mixed : Try.prog.follows .mixedOrders = true := by kernel_rfl
theorem ok0 : TnOk Try.prog tn0 (mkA base) dOk := tn_nil (by kernel_rfl)
noncomputable def L10_16_0 : Nat → (List (List Int)) → Int → Int → (List Int) → (List (List (List Int))) → Option (Bool ⊕ Unit)
  | 0, _, _, _, _, _ => none
  | n + 1, x0, x1, x2, x3, x4 => (cond (decide ((0 : Int) ≤ x1)) (cond (decide (x1 < (↑(List.length x4) : Int))) (cond (decide (x2 < (↑(List.length (List.getD x4 (Int.toNat x1) [])) : Int))) (cond (decide ((0 : Int) ≤ x2)) (cond (decide ((↑(List.length (List.getD (List.getD x4 (Int.toNat x1) []) (Int.toNat x2) [])) : Int) > (20 : Int))) (some (.inl (false))) (L10_16_0 n (x0) (x1) (IntKind.wrap IntKind.i64 (x2 + (1 : Int))) (x3) (x4))) none) (some (.inr ()))) none) none)
theorem qL10_16_0 : type_of% @L10_16_0.eq_2 := @L10_16_0.eq_2
noncomputable def xL10_16_0 (x0 : (List (List Int))) (x1 : Int) (x2 : Int) (x3 : (List Int)) (x4 : (List (List (List Int)))) : (Bool ⊕ Unit) → Ex × CS := fun r => match r with | .inl a0 => (.ret, { sl := [(6, .v (.sc (.bool (a0))))], lo := [], h := [], n0 := 0, w := true }) | .inr b0 => ((.exit 2), { sl := [(1, .v (.sc (.d 22 (.list 3 (.int .i64)) (x0)))), (3, .l 3 0), (7, .v (.sc (.int .i64 (x1)))), (45, .l 3 1)], lo := [(3, [.d 3 (.int .i64) (x3), .d 26 (.list 22 (.list 3 (.int .i64))) (x4)])], h := [], n0 := 0, w := false })
theorem bL10_16_0 (k : Nat) (cN : CS → Option (Ex × CS)) (cX : Ex → CS → Option (Ex × CS)) (x0 : (List (List Int))) (x1 : Int) (x2 : Int) (x3 : (List Int)) (x4 : (List (List (List Int)))) : loopBody Try.prog (mkTn base o0 t0 10) (TM.evF Try.prog (mkTn base o0 t0) dOk (k + 40)) dOk (k + 40) (codeAt Try.prog (tn0 10) 10 16) 2 16 { sl := [(1, .v (.sc (.d 22 (.list 3 (.int .i64)) (x0)))), (3, .l 3 0), (7, .v (.sc (.int .i64 (x1)))), (8, .v (.sc (.int .i64 (x2))))], lo := [(3, [.d 3 (.int .i64) (x3), .d 26 (.list 22 (.list 3 (.int .i64))) (x4)])], h := [], n0 := 0, w := false } cN cX = (cond (decide ((0 : Int) ≤ x1)) (cond (decide (x1 < (↑(List.length x4) : Int))) (cond (decide (x2 < (↑(List.length (List.getD x4 (Int.toNat x1) [])) : Int))) (cond (decide ((0 : Int) ≤ x1)) (cond (decide (x1 < (↑(List.length x4) : Int))) (cond (decide ((0 : Int) ≤ x2)) (cond (decide (x2 < (↑(List.length (List.getD x4 (Int.toNat x1) [])) : Int))) (cond (decide ((↑(List.length (List.getD (List.getD x4 (Int.toNat x1) []) (Int.toNat x2) [])) : Int) > (20 : Int))) (cX .ret { sl := [(6, .v (.sc (.bool (false))))], lo := [], h := [], n0 := 0, w := true }) (cN { sl := [(1, .v (.sc (.d 22 (.list 3 (.int .i64)) (x0)))), (3, .l 3 0), (7, .v (.sc (.int .i64 (x1)))), (8, .v (.sc (.int .i64 (IntKind.wrap IntKind.i64 (x2 + (1 : Int))))))], lo := [(3, [.d 3 (.int .i64) (x3), .d 26 (.list 22 (.list 3 (.int .i64))) (x4)])], h := [], n0 := 0, w := false })) none) none) none) none) (cX (.exit 2) { sl := [(1, .v (.sc (.d 22 (.list 3 (.int .i64)) (x0)))), (3, .l 3 0), (7, .v (.sc (.int .i64 (x1)))), (45, .l 3 1)], lo := [(3, [.d 3 (.int .i64) (x3), .d 26 (.list 22 (.list 3 (.int .i64))) (x4)])], h := [], n0 := 0, w := false })) none) none) := by kernel_rfl
theorem lL10_16_0 (k m : Nat) : ∀ (n : Nat) (x0 : (List (List Int))) (x1 : Int) (x2 : Int) (x3 : (List Int)) (x4 : (List (List (List Int)))) (r : (Bool ⊕ Unit)), L10_16_0 n x0 x1 x2 x3 x4 = some r → loopE Try.prog (mkTn base o0 t0 10) (TM.evF Try.prog (mkTn base o0 t0) dOk (k + 40)) dOk (k + 40) (codeAt Try.prog (tn0 10) 10 16) 2 16 (n + m) { sl := [(1, .v (.sc (.d 22 (.list 3 (.int .i64)) (x0)))), (3, .l 3 0), (7, .v (.sc (.int .i64 (x1)))), (8, .v (.sc (.int .i64 (x2))))], lo := [(3, [.d 3 (.int .i64) (x3), .d 26 (.list 22 (.list 3 (.int .i64))) (x4)])], h := [], n0 := 0, w := false } = some (xL10_16_0 x0 x1 x2 x3 x4 r) := by
  intro n
  induction n with
  | zero => intro _ _ _ _ _ r h; cases h
  | succ n ih =>
    intro x0 x1 x2 x3 x4 r
    rw [show n + 1 + m = n + m + 1 by omega, loop_step, bL10_16_0, qL10_16_0]
    cases (decide ((0 : Int) ≤ x1)) with
    | true =>
      cases (decide (x1 < (↑(List.length x4) : Int))) with
      | true =>
        cases (decide (x2 < (↑(List.length (List.getD x4 (Int.toNat x1) [])) : Int))) with
        | true =>
          cases (decide ((0 : Int) ≤ x2)) with
          | true =>
            cases (decide ((↑(List.length (List.getD (List.getD x4 (Int.toNat x1) []) (Int.toNat x2) [])) : Int) > (20 : Int))) with
            | true =>
              intro h; cases h; rfl
            | false =>
              exact ih _ _ _ _ _ r
          | false =>
            intro h; cases h
        | false =>
          intro h; cases h; rfl
      | false =>
        intro h; cases h
    | false =>
      intro h; cases h
noncomputable def sL10_16_0 : TellS := fun S => dCS 0 S fun y1 y2 y3 => dSs 1 y1 fun y5 l4 => dD 22 (.list 3 (.int .i64)) y5 fun x0 => dSt 3 l4 fun y7 l6 => dL 3 0 y7 <| dSI 7 .i64 l6 fun x1 l8 => dSI 8 .i64 l8 fun x2 l9 => dE l9 <| dLo 3 y2 fun y10 l11 => dC y10 fun y12 l13 => dD 3 (.int .i64) y12 fun x3 => dC l13 fun y14 l15 => dD 26 (.list 22 (.list 3 (.int .i64))) y14 fun x4 => dE l15 <| dE l11 <| dE y3 <|  some [(isL (L10_16_0 FU x0 x1 x2 x3 x4), .ret, { sl := [(6, .v (.sc (.bool ((getL (L10_16_0 FU x0 x1 x2 x3 x4))))))], lo := [], h := [], n0 := 0, w := true }), (ok (getR (L10_16_0 FU x0 x1 x2 x3 x4)), (.exit 2), { sl := [(1, .v (.sc (.d 22 (.list 3 (.int .i64)) (x0)))), (3, .l 3 0), (7, .v (.sc (.int .i64 (x1)))), (45, .l 3 1)], lo := [(3, [.d 3 (.int .i64) (x3), .d 26 (.list 22 (.list 3 (.int .i64))) (x4)])], h := [], n0 := 0, w := false })]
theorem wL10_16_0 : NewTell Try.prog dOk base o0 t0 ((10, 16), sL10_16_0) := by
  refine ⟨.loop (codeAt Try.prog (tn0 10) 10 16), 2, by kernel_rfl, ?_⟩
  intro S alts e S' h10 h2
  have h1 : sL10_16_0 S = some alts := h10
  clear h10
  unfold sL10_16_0 at h1
  replace h1 := dCS_some h1; obtain ⟨y1, y2, y3, rfl, h1⟩ := h1
  replace h1 := dSs_some h1; obtain ⟨y5, l4, rfl, h1⟩ := h1
  replace h1 := dD_some h1; obtain ⟨x0, rfl, h1⟩ := h1
  replace h1 := dSt_some h1; obtain ⟨y7, l6, rfl, h1⟩ := h1
  replace h1 := dL_some h1; obtain ⟨rfl, h1⟩ := h1
  replace h1 := dSI_some h1; obtain ⟨x1, l8, rfl, h1⟩ := h1
  replace h1 := dSI_some h1; obtain ⟨x2, l9, rfl, h1⟩ := h1
  replace h1 := dE_some h1; obtain ⟨rfl, h1⟩ := h1
  replace h1 := dLo_some h1; obtain ⟨y10, l11, rfl, h1⟩ := h1
  replace h1 := dC_some h1; obtain ⟨y12, l13, rfl, h1⟩ := h1
  replace h1 := dD_some h1; obtain ⟨x3, rfl, h1⟩ := h1
  replace h1 := dC_some h1; obtain ⟨y14, l15, rfl, h1⟩ := h1
  replace h1 := dD_some h1; obtain ⟨x4, rfl, h1⟩ := h1
  replace h1 := dE_some h1; obtain ⟨rfl, h1⟩ := h1
  replace h1 := dE_some h1; obtain ⟨rfl, h1⟩ := h1
  replace h1 := dE_some h1; obtain ⟨rfl, h1⟩ := h1
  cases h1
  rcases pick_cons h2 with ⟨hc0, rfl, rfl⟩ | h2
  · exact ⟨FU + 40, (evPiece_loop rfl).trans (lL10_16_0 FU 40 FU _ _ _ _ _ _ (isL_val hc0))⟩
  obtain ⟨hc1, rfl, rfl⟩ := pick_one h2
  exact ⟨FU + 40, (evPiece_loop rfl).trans (lL10_16_0 FU 40 FU _ _ _ _ _ _ (getR_val (ok_val hc1)))⟩
noncomputable def o1 : OrcT := o0
noncomputable def t1 : TellT := ((10, 16), sL10_16_0) :: t0
noncomputable abbrev tn1 : FuncId → TAn := mkTn base o1 t1
theorem ok1 : TnOk Try.prog tn1 (mkA base) dOk := by
  have h0 : TnOk Try.prog (mkTn base o0 t0) (mkA base) dOk := ok0
  have h1 := tn_tell h0 h0 (p := ((10, 16), sL10_16_0)) wL10_16_0
  exact h1
noncomputable def L10_0_0 : Nat → (List (List Int)) → Int → (List Int) → (List (List (List Int))) → Option (Bool ⊕ Unit)
  | 0, _, _, _, _ => none
  | n + 1, x0, x1, x2, x3 => (cond (decide (x1 < (↑(List.length x3) : Int))) (cond (decide ((0 : Int) ≤ x1)) (cond (decide ((↑(List.length (List.getD x3 (Int.toNat x1) [])) : Int) > (20 : Int))) (some (.inl (false))) (cond (isL (L10_16_0 FU x0 x1 (0 : Int) x2 x3)) (some (.inl (getL (L10_16_0 FU x0 x1 (0 : Int) x2 x3)))) (cond (ok (getR (L10_16_0 FU x0 x1 (0 : Int) x2 x3))) (L10_0_0 n (x0) (IntKind.wrap IntKind.i64 (x1 + (1 : Int))) (x2) (x3)) none))) none) (some (.inr ())))
theorem qL10_0_0 : type_of% @L10_0_0.eq_2 := @L10_0_0.eq_2
noncomputable def xL10_0_0 (x0 : (List (List Int))) (x1 : Int) (x2 : (List Int)) (x3 : (List (List (List Int)))) : (Bool ⊕ Unit) → Ex × CS := fun r => match r with | .inl a0 => (.ret, { sl := [(6, .v (.sc (.bool (a0))))], lo := [], h := [], n0 := 0, w := true }) | .inr b0 => ((.exit 0), { sl := [(1, .v (.sc (.d 22 (.list 3 (.int .i64)) (x0)))), (3, .l 3 0), (31, .l 3 1)], lo := [], h := [], n0 := 0, w := false })
theorem bL10_0_0 (k : Nat) (cN : CS → Option (Ex × CS)) (cX : Ex → CS → Option (Ex × CS)) (x0 : (List (List Int))) (x1 : Int) (x2 : (List Int)) (x3 : (List (List (List Int)))) : loopBody Try.prog (mkTn base o1 t1 10) (TM.evF Try.prog (mkTn base o1 t1) dOk (k + 40)) dOk (k + 40) (codeAt Try.prog (tn0 10) 10 0) 0 0 { sl := [(1, .v (.sc (.d 22 (.list 3 (.int .i64)) (x0)))), (3, .l 3 0), (7, .v (.sc (.int .i64 (x1))))], lo := [(3, [.d 3 (.int .i64) (x2), .d 26 (.list 22 (.list 3 (.int .i64))) (x3)])], h := [], n0 := 0, w := false } cN cX = (cond (decide (x1 < (↑(List.length x3) : Int))) (cond (decide ((0 : Int) ≤ x1)) (cond (decide (x1 < (↑(List.length x3) : Int))) (cond (decide ((↑(List.length (List.getD x3 (Int.toNat x1) [])) : Int) > (20 : Int))) (cX .ret { sl := [(6, .v (.sc (.bool (false))))], lo := [], h := [], n0 := 0, w := true }) (cond (isL (L10_16_0 FU x0 x1 (0 : Int) x2 x3)) (cX .ret { sl := [(6, .v (.sc (.bool (getL (L10_16_0 FU x0 x1 (0 : Int) x2 x3)))))], lo := [], h := [], n0 := 0, w := true }) (cond (ok (getR (L10_16_0 FU x0 x1 (0 : Int) x2 x3))) (cN { sl := [(1, .v (.sc (.d 22 (.list 3 (.int .i64)) (x0)))), (3, .l 3 0), (7, .v (.sc (.int .i64 (IntKind.wrap IntKind.i64 (x1 + (1 : Int))))))], lo := [(3, [.d 3 (.int .i64) (x2), .d 26 (.list 22 (.list 3 (.int .i64))) (x3)])], h := [], n0 := 0, w := false }) none))) none) none) (cX (.exit 0) { sl := [(1, .v (.sc (.d 22 (.list 3 (.int .i64)) (x0)))), (3, .l 3 0), (31, .l 3 1)], lo := [], h := [], n0 := 0, w := false })) := by kernel_rfl
theorem lL10_0_0 (k m : Nat) : ∀ (n : Nat) (x0 : (List (List Int))) (x1 : Int) (x2 : (List Int)) (x3 : (List (List (List Int)))) (r : (Bool ⊕ Unit)), L10_0_0 n x0 x1 x2 x3 = some r → loopE Try.prog (mkTn base o1 t1 10) (TM.evF Try.prog (mkTn base o1 t1) dOk (k + 40)) dOk (k + 40) (codeAt Try.prog (tn0 10) 10 0) 0 0 (n + m) { sl := [(1, .v (.sc (.d 22 (.list 3 (.int .i64)) (x0)))), (3, .l 3 0), (7, .v (.sc (.int .i64 (x1))))], lo := [(3, [.d 3 (.int .i64) (x2), .d 26 (.list 22 (.list 3 (.int .i64))) (x3)])], h := [], n0 := 0, w := false } = some (xL10_0_0 x0 x1 x2 x3 r) := by
  intro n
  induction n with
  | zero => intro _ _ _ _ r h; cases h
  | succ n ih =>
    intro x0 x1 x2 x3 r
    rw [show n + 1 + m = n + m + 1 by omega, loop_step, bL10_0_0, qL10_0_0]
    cases (decide (x1 < (↑(List.length x3) : Int))) with
    | true =>
      cases (decide ((0 : Int) ≤ x1)) with
      | true =>
        cases (decide ((↑(List.length (List.getD x3 (Int.toNat x1) [])) : Int) > (20 : Int))) with
        | true =>
          intro h; cases h; rfl
        | false =>
          cases (isL (L10_16_0 FU x0 x1 (0 : Int) x2 x3)) with
          | true =>
            intro h; cases h; rfl
          | false =>
            cases (ok (getR (L10_16_0 FU x0 x1 (0 : Int) x2 x3))) with
            | true =>
              exact ih _ _ _ _ r
            | false =>
              intro h; cases h
      | false =>
        intro h; cases h
    | false =>
      intro h; cases h; rfl
noncomputable def sL10_0_0 : TellS := fun S => dCS 0 S fun y1 y2 y3 => dSs 1 y1 fun y5 l4 => dD 22 (.list 3 (.int .i64)) y5 fun x0 => dSt 3 l4 fun y7 l6 => dL 3 0 y7 <| dSI 7 .i64 l6 fun x1 l8 => dE l8 <| dLo 3 y2 fun y9 l10 => dC y9 fun y11 l12 => dD 3 (.int .i64) y11 fun x2 => dC l12 fun y13 l14 => dD 26 (.list 22 (.list 3 (.int .i64))) y13 fun x3 => dE l14 <| dE l10 <| dE y3 <|  some [(isL (L10_0_0 FU x0 x1 x2 x3), .ret, { sl := [(6, .v (.sc (.bool ((getL (L10_0_0 FU x0 x1 x2 x3))))))], lo := [], h := [], n0 := 0, w := true }), (ok (getR (L10_0_0 FU x0 x1 x2 x3)), (.exit 0), { sl := [(1, .v (.sc (.d 22 (.list 3 (.int .i64)) (x0)))), (3, .l 3 0), (31, .l 3 1)], lo := [], h := [], n0 := 0, w := false })]
theorem wL10_0_0 : NewTell Try.prog dOk base o1 t1 ((10, 0), sL10_0_0) := by
  refine ⟨.loop (codeAt Try.prog (tn0 10) 10 0), 0, by kernel_rfl, ?_⟩
  intro S alts e S' h10 h2
  have h1 : sL10_0_0 S = some alts := h10
  clear h10
  unfold sL10_0_0 at h1
  replace h1 := dCS_some h1; obtain ⟨y1, y2, y3, rfl, h1⟩ := h1
  replace h1 := dSs_some h1; obtain ⟨y5, l4, rfl, h1⟩ := h1
  replace h1 := dD_some h1; obtain ⟨x0, rfl, h1⟩ := h1
  replace h1 := dSt_some h1; obtain ⟨y7, l6, rfl, h1⟩ := h1
  replace h1 := dL_some h1; obtain ⟨rfl, h1⟩ := h1
  replace h1 := dSI_some h1; obtain ⟨x1, l8, rfl, h1⟩ := h1
  replace h1 := dE_some h1; obtain ⟨rfl, h1⟩ := h1
  replace h1 := dLo_some h1; obtain ⟨y9, l10, rfl, h1⟩ := h1
  replace h1 := dC_some h1; obtain ⟨y11, l12, rfl, h1⟩ := h1
  replace h1 := dD_some h1; obtain ⟨x2, rfl, h1⟩ := h1
  replace h1 := dC_some h1; obtain ⟨y13, l14, rfl, h1⟩ := h1
  replace h1 := dD_some h1; obtain ⟨x3, rfl, h1⟩ := h1
  replace h1 := dE_some h1; obtain ⟨rfl, h1⟩ := h1
  replace h1 := dE_some h1; obtain ⟨rfl, h1⟩ := h1
  replace h1 := dE_some h1; obtain ⟨rfl, h1⟩ := h1
  cases h1
  rcases pick_cons h2 with ⟨hc0, rfl, rfl⟩ | h2
  · exact ⟨FU + 40, (evPiece_loop rfl).trans (lL10_0_0 FU 40 FU _ _ _ _ _ (isL_val hc0))⟩
  obtain ⟨hc1, rfl, rfl⟩ := pick_one h2
  exact ⟨FU + 40, (evPiece_loop rfl).trans (lL10_0_0 FU 40 FU _ _ _ _ _ (getR_val (ok_val hc1)))⟩
noncomputable def o2 : OrcT := o1
noncomputable def t2 : TellT := ((10, 0), sL10_0_0) :: t1
noncomputable abbrev tn2 : FuncId → TAn := mkTn base o2 t2
theorem ok2 : TnOk Try.prog tn2 (mkA base) dOk := by
  have h0 : TnOk Try.prog (mkTn base o1 t1) (mkA base) dOk := ok1
  have h1 := tn_tell h0 h0 (p := ((10, 0), sL10_0_0)) wL10_0_0
  exact h1
noncomputable def L10_32_0 : Nat → (List (List Int)) → Int → Option (Bool ⊕ Unit)
  | 0, _, _ => none
  | n + 1, x0, x1 => (cond (decide (x1 < (↑(List.length x0) : Int))) (cond (decide ((0 : Int) ≤ x1)) (cond (decide ((↑(List.length (List.getD x0 (Int.toNat x1) [])) : Int) > (20 : Int))) (some (.inl (false))) (L10_32_0 n (x0) (IntKind.wrap IntKind.i64 (x1 + (1 : Int))))) none) (some (.inr ())))
theorem qL10_32_0 : type_of% @L10_32_0.eq_2 := @L10_32_0.eq_2
noncomputable def xL10_32_0 (x0 : (List (List Int))) (x1 : Int) : (Bool ⊕ Unit) → Ex × CS := fun r => match r with | .inl a0 => (.ret, { sl := [(6, .v (.sc (.bool (a0))))], lo := [], h := [], n0 := 0, w := true }) | .inr b0 => ((.exit 4), { sl := [], lo := [], h := [], n0 := 0, w := false })
theorem bL10_32_0 (k : Nat) (cN : CS → Option (Ex × CS)) (cX : Ex → CS → Option (Ex × CS)) (x0 : (List (List Int))) (x1 : Int) : loopBody Try.prog (mkTn base o2 t2 10) (TM.evF Try.prog (mkTn base o2 t2) dOk (k + 40)) dOk (k + 40) (codeAt Try.prog (tn0 10) 10 32) 4 32 { sl := [(1, .v (.sc (.d 22 (.list 3 (.int .i64)) (x0)))), (9, .v (.sc (.int .i64 (x1))))], lo := [], h := [], n0 := 0, w := false } cN cX = (cond (decide (x1 < (↑(List.length x0) : Int))) (cond (decide ((0 : Int) ≤ x1)) (cond (decide (x1 < (↑(List.length x0) : Int))) (cond (decide ((↑(List.length (List.getD x0 (Int.toNat x1) [])) : Int) > (20 : Int))) (cX .ret { sl := [(6, .v (.sc (.bool (false))))], lo := [], h := [], n0 := 0, w := true }) (cN { sl := [(1, .v (.sc (.d 22 (.list 3 (.int .i64)) (x0)))), (9, .v (.sc (.int .i64 (IntKind.wrap IntKind.i64 (x1 + (1 : Int))))))], lo := [], h := [], n0 := 0, w := false })) none) none) (cX (.exit 4) { sl := [], lo := [], h := [], n0 := 0, w := false })) := by kernel_rfl
theorem lL10_32_0 (k m : Nat) : ∀ (n : Nat) (x0 : (List (List Int))) (x1 : Int) (r : (Bool ⊕ Unit)), L10_32_0 n x0 x1 = some r → loopE Try.prog (mkTn base o2 t2 10) (TM.evF Try.prog (mkTn base o2 t2) dOk (k + 40)) dOk (k + 40) (codeAt Try.prog (tn0 10) 10 32) 4 32 (n + m) { sl := [(1, .v (.sc (.d 22 (.list 3 (.int .i64)) (x0)))), (9, .v (.sc (.int .i64 (x1))))], lo := [], h := [], n0 := 0, w := false } = some (xL10_32_0 x0 x1 r) := by
  intro n
  induction n with
  | zero => intro _ _ r h; cases h
  | succ n ih =>
    intro x0 x1 r
    rw [show n + 1 + m = n + m + 1 by omega, loop_step, bL10_32_0, qL10_32_0]
    cases (decide (x1 < (↑(List.length x0) : Int))) with
    | true =>
      cases (decide ((0 : Int) ≤ x1)) with
      | true =>
        cases (decide ((↑(List.length (List.getD x0 (Int.toNat x1) [])) : Int) > (20 : Int))) with
        | true =>
          intro h; cases h; rfl
        | false =>
          exact ih _ _ r
      | false =>
        intro h; cases h
    | false =>
      intro h; cases h; rfl
noncomputable def sL10_32_0 : TellS := fun S => dCS 0 S fun y1 y2 y3 => dSs 1 y1 fun y5 l4 => dD 22 (.list 3 (.int .i64)) y5 fun x0 => dSI 9 .i64 l4 fun x1 l6 => dE l6 <| dE y2 <| dE y3 <|  some [(isL (L10_32_0 FU x0 x1), .ret, { sl := [(6, .v (.sc (.bool ((getL (L10_32_0 FU x0 x1))))))], lo := [], h := [], n0 := 0, w := true }), (ok (getR (L10_32_0 FU x0 x1)), (.exit 4), { sl := [], lo := [], h := [], n0 := 0, w := false })]
theorem wL10_32_0 : NewTell Try.prog dOk base o2 t2 ((10, 32), sL10_32_0) := by
  refine ⟨.loop (codeAt Try.prog (tn0 10) 10 32), 4, by kernel_rfl, ?_⟩
  intro S alts e S' h10 h2
  have h1 : sL10_32_0 S = some alts := h10
  clear h10
  unfold sL10_32_0 at h1
  replace h1 := dCS_some h1; obtain ⟨y1, y2, y3, rfl, h1⟩ := h1
  replace h1 := dSs_some h1; obtain ⟨y5, l4, rfl, h1⟩ := h1
  replace h1 := dD_some h1; obtain ⟨x0, rfl, h1⟩ := h1
  replace h1 := dSI_some h1; obtain ⟨x1, l6, rfl, h1⟩ := h1
  replace h1 := dE_some h1; obtain ⟨rfl, h1⟩ := h1
  replace h1 := dE_some h1; obtain ⟨rfl, h1⟩ := h1
  replace h1 := dE_some h1; obtain ⟨rfl, h1⟩ := h1
  cases h1
  rcases pick_cons h2 with ⟨hc0, rfl, rfl⟩ | h2
  · exact ⟨FU + 40, (evPiece_loop rfl).trans (lL10_32_0 FU 40 FU _ _ _ (isL_val hc0))⟩
  obtain ⟨hc1, rfl, rfl⟩ := pick_one h2
  exact ⟨FU + 40, (evPiece_loop rfl).trans (lL10_32_0 FU 40 FU _ _ _ (getR_val (ok_val hc1)))⟩
noncomputable def o3 : OrcT := o2
noncomputable def t3 : TellT := ((10, 32), sL10_32_0) :: t2
noncomputable abbrev tn3 : FuncId → TAn := mkTn base o3 t3
theorem ok3 : TnOk Try.prog tn3 (mkA base) dOk := by
  have h0 : TnOk Try.prog (mkTn base o2 t2) (mkA base) dOk := ok2
  have h1 := tn_tell h0 h0 (p := ((10, 32), sL10_32_0)) wL10_32_0
  exact h1
noncomputable def v10 (x0 : (List Int)) (x1 : (List (List (List Int)))) (x2 : (List (List Int))) (x3 : (List Int)) : Option Bool := (cond (decide ((↑(List.length x0) : Int) > (20 : Int))) (some (false)) (cond (decide ((↑(List.length x1) : Int) > (20 : Int))) (some (false)) (cond (decide ((↑(List.length x2) : Int) > (20 : Int))) (some (false)) (cond (decide ((↑(List.length x3) : Int) > (20 : Int))) (some (false)) (cond (isL (L10_0_0 FU x2 (0 : Int) x0 x1)) (some (getL (L10_0_0 FU x2 (0 : Int) x0 x1))) (cond (ok (getR (L10_0_0 FU x2 (0 : Int) x0 x1))) (cond (isL (L10_32_0 FU x2 (0 : Int))) (some (getL (L10_32_0 FU x2 (0 : Int)))) (cond (ok (getR (L10_32_0 FU x2 (0 : Int)))) (some (true)) none)) none))))))
theorem ev10 (x0 : (List Int)) (x1 : (List (List (List Int)))) (x2 : (List (List Int))) (x3 : (List Int)) : fnBody Try.prog (mkTn base o3 t3 10) (TM.evF Try.prog (mkTn base o3 t3) dOk 40) dOk 40 10 [.agg [.d 3 (.int .i64) (x0), .d 26 (.list 22 (.list 3 (.int .i64))) (x1)], .sc (.d 22 (.list 3 (.int .i64)) (x2)), .sc (.d 3 (.int .i64) (x3))] [] = (v10 x0 x1 x2 x3).bind fun r => some ([.sc (.bool (r))], []) := by
  refine Eq.trans (b := (cond (decide ((↑(List.length x0) : Int) > (20 : Int))) (some ([.sc (.bool (false))], [])) (cond (decide ((↑(List.length x1) : Int) > (20 : Int))) (some ([.sc (.bool (false))], [])) (cond (decide ((↑(List.length x2) : Int) > (20 : Int))) (some ([.sc (.bool (false))], [])) (cond (decide ((↑(List.length x3) : Int) > (20 : Int))) (some ([.sc (.bool (false))], [])) (cond (isL (L10_0_0 FU x2 (0 : Int) x0 x1)) (some ([.sc (.bool (getL (L10_0_0 FU x2 (0 : Int) x0 x1)))], [])) (cond (ok (getR (L10_0_0 FU x2 (0 : Int) x0 x1))) (cond (isL (L10_32_0 FU x2 (0 : Int))) (some ([.sc (.bool (getL (L10_32_0 FU x2 (0 : Int))))], [])) (cond (ok (getR (L10_32_0 FU x2 (0 : Int)))) (some ([.sc (.bool (true))], [])) none)) none))))))) (by kernel_rfl) ?_
  unfold v10
  refine cond_bd ?_ ?_
  · rfl
  · refine cond_bd ?_ ?_
    · rfl
    · refine cond_bd ?_ ?_
      · rfl
      · refine cond_bd ?_ ?_
        · rfl
        · refine cond_bd ?_ ?_
          · rfl
          · refine cond_bd ?_ ?_
            · refine cond_bd ?_ ?_
              · rfl
              · refine cond_bd ?_ ?_
                · rfl
                · rfl
            · rfl
noncomputable def sv10 : OrcS := fun al H => dC al fun y1 l2 => dA y1 fun y3 => dC y3 fun y4 l5 => dD 3 (.int .i64) y4 fun x0 => dC l5 fun y6 l7 => dD 26 (.list 22 (.list 3 (.int .i64))) y6 fun x1 => dE l7 <| dC l2 fun y8 l9 => dS y8 fun y10 => dD 22 (.list 3 (.int .i64)) y10 fun x2 => dC l9 fun y11 l12 => dS y11 fun y13 => dD 3 (.int .i64) y13 fun x3 => dE l12 <| dE H <|  some [(ok (v10 x0 x1 x2 x3), [.sc (.bool ((val (v10 x0 x1 x2 x3))))], [])]
theorem wv10 : NewOrc Try.prog dOk base o3 t3 (10, sv10) := by
  intro al H q hq0 rs H2 h2
  have hq : sv10 al H = some q := hq0
  clear hq0
  unfold sv10 at hq
  replace hq := dC_some hq; obtain ⟨y1, l2, rfl, hq⟩ := hq
  replace hq := dA_some hq; obtain ⟨y3, rfl, hq⟩ := hq
  replace hq := dC_some hq; obtain ⟨y4, l5, rfl, hq⟩ := hq
  replace hq := dD_some hq; obtain ⟨x0, rfl, hq⟩ := hq
  replace hq := dC_some hq; obtain ⟨y6, l7, rfl, hq⟩ := hq
  replace hq := dD_some hq; obtain ⟨x1, rfl, hq⟩ := hq
  replace hq := dE_some hq; obtain ⟨rfl, hq⟩ := hq
  replace hq := dC_some hq; obtain ⟨y8, l9, rfl, hq⟩ := hq
  replace hq := dS_some hq; obtain ⟨y10, rfl, hq⟩ := hq
  replace hq := dD_some hq; obtain ⟨x2, rfl, hq⟩ := hq
  replace hq := dC_some hq; obtain ⟨y11, l12, rfl, hq⟩ := hq
  replace hq := dS_some hq; obtain ⟨y13, rfl, hq⟩ := hq
  replace hq := dD_some hq; obtain ⟨x3, rfl, hq⟩ := hq
  replace hq := dE_some hq; obtain ⟨rfl, hq⟩ := hq
  replace hq := dE_some hq; obtain ⟨rfl, hq⟩ := hq
  cases hq
  obtain ⟨hc0, rfl, rfl⟩ := pickR_one h2
  exact ⟨41, (fn_eq (by kernel_rfl)).trans ((ev10 _ _ _ _).trans (bind_of (ok_val hc0)))⟩
noncomputable def o4 : OrcT := (10, sv10) :: o3
noncomputable def t4 : TellT := t3
noncomputable abbrev tn4 : FuncId → TAn := mkTn base o4 t4
theorem ok4 : TnOk Try.prog tn4 (mkA base) dOk := by
  have h0 : TnOk Try.prog (mkTn base o3 t3) (mkA base) dOk := ok3
  have h1 := tn_orc h0 h0 (p := (10, sv10)) wv10
  exact h1
noncomputable def v31 (x0 : Int) (x1 : Int) (x2 : Int) : Option Bool := (cond (decide (x1 ≤ x0)) (some (decide (x0 ≤ x2))) (some (false)))
theorem ev31 (x0 : Int) (x1 : Int) (x2 : Int) : fnBody Try.prog (mkTn base o4 t4 31) (TM.evF Try.prog (mkTn base o4 t4) dOk 40) dOk 40 31 [.sc (.int .i64 (x0)), .sc (.int .i64 (x1)), .sc (.int .i64 (x2))] [] = (v31 x0 x1 x2).bind fun r => some ([.sc (.bool (r))], []) := by
  refine Eq.trans (b := (cond (decide (x1 ≤ x0)) (some ([.sc (.bool (decide (x0 ≤ x2)))], [])) (some ([.sc (.bool (false))], [])))) (by kernel_rfl) ?_
  unfold v31
  refine cond_bd ?_ ?_
  · rfl
  · rfl
noncomputable def sv31 : OrcS := fun al H => dC al fun y1 l2 => dS y1 fun y3 => dInt .i64 y3 fun x0 => dC l2 fun y4 l5 => dS y4 fun y6 => dInt .i64 y6 fun x1 => dC l5 fun y7 l8 => dS y7 fun y9 => dInt .i64 y9 fun x2 => dE l8 <| dE H <|  some [(ok (v31 x0 x1 x2), [.sc (.bool ((val (v31 x0 x1 x2))))], [])]
theorem wv31 : NewOrc Try.prog dOk base o4 t4 (31, sv31) := by
  intro al H q hq0 rs H2 h2
  have hq : sv31 al H = some q := hq0
  clear hq0
  unfold sv31 at hq
  replace hq := dC_some hq; obtain ⟨y1, l2, rfl, hq⟩ := hq
  replace hq := dS_some hq; obtain ⟨y3, rfl, hq⟩ := hq
  replace hq := dInt_some hq; obtain ⟨x0, rfl, hq⟩ := hq
  replace hq := dC_some hq; obtain ⟨y4, l5, rfl, hq⟩ := hq
  replace hq := dS_some hq; obtain ⟨y6, rfl, hq⟩ := hq
  replace hq := dInt_some hq; obtain ⟨x1, rfl, hq⟩ := hq
  replace hq := dC_some hq; obtain ⟨y7, l8, rfl, hq⟩ := hq
  replace hq := dS_some hq; obtain ⟨y9, rfl, hq⟩ := hq
  replace hq := dInt_some hq; obtain ⟨x2, rfl, hq⟩ := hq
  replace hq := dE_some hq; obtain ⟨rfl, hq⟩ := hq
  replace hq := dE_some hq; obtain ⟨rfl, hq⟩ := hq
  cases hq
  obtain ⟨hc0, rfl, rfl⟩ := pickR_one h2
  exact ⟨41, (fn_eq (by kernel_rfl)).trans ((ev31 _ _ _).trans (bind_of (ok_val hc0)))⟩
noncomputable def o5 : OrcT := (31, sv31) :: o4
noncomputable def t5 : TellT := t4
noncomputable abbrev tn5 : FuncId → TAn := mkTn base o5 t5
theorem ok5 : TnOk Try.prog tn5 (mkA base) dOk := by
  have h0 : TnOk Try.prog (mkTn base o4 t4) (mkA base) dOk := ok4
  have h1 := tn_orc h0 h0 (p := (31, sv31)) wv31
  exact h1
noncomputable def v33 (x0 : Int) : Option Bool := (cond (ok (v31 x0 (0 : Int) (1000 : Int))) (some (val (v31 x0 (0 : Int) (1000 : Int)))) none)
theorem ev33 (x0 : Int) : fnBody Try.prog (mkTn base o5 t5 33) (TM.evF Try.prog (mkTn base o5 t5) dOk 40) dOk 40 33 [.sc (.int .i64 (x0))] [] = (v33 x0).bind fun r => some ([.sc (.bool (r))], []) := by
  refine Eq.trans (b := (cond (ok (v31 x0 (0 : Int) (1000 : Int))) (some ([.sc (.bool (val (v31 x0 (0 : Int) (1000 : Int))))], [])) none)) (by kernel_rfl) ?_
  unfold v33
  refine cond_bd ?_ ?_
  · rfl
  · rfl
noncomputable def sv33 : OrcS := fun al H => dC al fun y1 l2 => dS y1 fun y3 => dInt .i64 y3 fun x0 => dE l2 <| dE H <|  some [(ok (v33 x0), [.sc (.bool ((val (v33 x0))))], [])]
theorem wv33 : NewOrc Try.prog dOk base o5 t5 (33, sv33) := by
  intro al H q hq0 rs H2 h2
  have hq : sv33 al H = some q := hq0
  clear hq0
  unfold sv33 at hq
  replace hq := dC_some hq; obtain ⟨y1, l2, rfl, hq⟩ := hq
  replace hq := dS_some hq; obtain ⟨y3, rfl, hq⟩ := hq
  replace hq := dInt_some hq; obtain ⟨x0, rfl, hq⟩ := hq
  replace hq := dE_some hq; obtain ⟨rfl, hq⟩ := hq
  replace hq := dE_some hq; obtain ⟨rfl, hq⟩ := hq
  cases hq
  obtain ⟨hc0, rfl, rfl⟩ := pickR_one h2
  exact ⟨41, (fn_eq (by kernel_rfl)).trans ((ev33 _).trans (bind_of (ok_val hc0)))⟩
noncomputable def o6 : OrcT := (33, sv33) :: o5
noncomputable def t6 : TellT := t5
noncomputable abbrev tn6 : FuncId → TAn := mkTn base o6 t6
theorem ok6 : TnOk Try.prog tn6 (mkA base) dOk := by
  have h0 : TnOk Try.prog (mkTn base o5 t5) (mkA base) dOk := ok5
  have h1 := tn_orc h0 h0 (p := (33, sv33)) wv33
  exact h1
noncomputable def v46 (x0 : Int) : Option Bool := (cond (ok (v33 x0)) (some (!val (v33 x0))) none)
theorem ev46 (x0 : Int) : fnBody Try.prog (mkTn base o6 t6 46) (TM.evF Try.prog (mkTn base o6 t6) dOk 40) dOk 40 46 [.sc (.int .i64 (x0)), .sc (.ptr 0 0)] [.box 53 [.fn 33 0 [] []]] = (v46 x0).bind fun r => some ([.sc (.bool (r))], [.box 53 [.fn 33 0 [] []]]) := by
  refine Eq.trans (b := (cond (ok (v33 x0)) (some ([.sc (.bool (!val (v33 x0)))], [.box 53 [.fn 33 0 [] []]])) none)) (by kernel_rfl) ?_
  unfold v46
  refine cond_bd ?_ ?_
  · rfl
  · rfl
noncomputable def sv46 : OrcS := fun al H => dC al fun y1 l2 => dS y1 fun y3 => dInt .i64 y3 fun x0 => dC l2 fun y4 l5 => dS y4 fun y6 => dPtr 0 0 y6 <| dE l5 <| dHB 53 H fun y8 l7 => dC y8 fun y9 l10 => dFn 33 0 [] y9 fun y11 => dE y11 <| dE l10 <| dE l7 <|  some [(ok (v46 x0), [.sc (.bool ((val (v46 x0))))], [.box 53 [.fn 33 0 [] []]])]
theorem wv46 : NewOrc Try.prog dOk base o6 t6 (46, sv46) := by
  intro al H q hq0 rs H2 h2
  have hq : sv46 al H = some q := hq0
  clear hq0
  unfold sv46 at hq
  replace hq := dC_some hq; obtain ⟨y1, l2, rfl, hq⟩ := hq
  replace hq := dS_some hq; obtain ⟨y3, rfl, hq⟩ := hq
  replace hq := dInt_some hq; obtain ⟨x0, rfl, hq⟩ := hq
  replace hq := dC_some hq; obtain ⟨y4, l5, rfl, hq⟩ := hq
  replace hq := dS_some hq; obtain ⟨y6, rfl, hq⟩ := hq
  replace hq := dPtr_some hq; obtain ⟨rfl, hq⟩ := hq
  replace hq := dE_some hq; obtain ⟨rfl, hq⟩ := hq
  replace hq := dHB_some hq; obtain ⟨y8, l7, rfl, hq⟩ := hq
  replace hq := dC_some hq; obtain ⟨y9, l10, rfl, hq⟩ := hq
  replace hq := dFn_some hq; obtain ⟨y11, rfl, hq⟩ := hq
  replace hq := dE_some hq; obtain ⟨rfl, hq⟩ := hq
  replace hq := dE_some hq; obtain ⟨rfl, hq⟩ := hq
  replace hq := dE_some hq; obtain ⟨rfl, hq⟩ := hq
  cases hq
  obtain ⟨hc0, rfl, rfl⟩ := pickR_one h2
  exact ⟨41, (fn_eq (by kernel_rfl)).trans ((ev46 _).trans (bind_of (ok_val hc0)))⟩
noncomputable def o7 : OrcT := (46, sv46) :: o6
noncomputable def t7 : TellT := t6
noncomputable abbrev tn7 : FuncId → TAn := mkTn base o7 t7
theorem ok7 : TnOk Try.prog tn7 (mkA base) dOk := by
  have h0 : TnOk Try.prog (mkTn base o6 t6) (mkA base) dOk := ok6
  have h1 := tn_orc h0 h0 (p := (46, sv46)) wv46
  exact h1
noncomputable def L53_0_0 : Nat → (List Int) → Int → Int → Option (Int ⊕ Unit)
  | 0, _, _, _ => none
  | n + 1, x0, x1, x2 => (cond (decide (x2 < x1)) (cond (decide ((0 : Int) ≤ x2)) (cond (decide (x2 < (↑(List.length x0) : Int))) (cond (ok (v46 (List.getD x0 (Int.toNat x2) (0 : Int)))) (cond (val (v46 (List.getD x0 (Int.toNat x2) (0 : Int)))) (some (.inl (x2))) (L53_0_0 n (x0) (x1) (IntKind.wrap IntKind.i64 (x2 + (1 : Int))))) none) none) none) (some (.inr ())))
theorem qL53_0_0 : type_of% @L53_0_0.eq_2 := @L53_0_0.eq_2
noncomputable def xL53_0_0 (x0 : (List Int)) (x1 : Int) (x2 : Int) : (Int ⊕ Unit) → Ex × CS := fun r => match r with | .inl a0 => (.ret, { sl := [(4, .v (.sc (.int .i64 (a0))))], lo := [], h := [.box 53 [.fn 33 0 [] []]], n0 := 1, w := true }) | .inr b0 => ((.exit 0), { sl := [], lo := [], h := [.box 53 [.fn 33 0 [] []]], n0 := 1, w := false })
theorem bL53_0_0 (k : Nat) (cN : CS → Option (Ex × CS)) (cX : Ex → CS → Option (Ex × CS)) (x0 : (List Int)) (x1 : Int) (x2 : Int) : loopBody Try.prog (mkTn base o7 t7 53) (TM.evF Try.prog (mkTn base o7 t7) dOk (k + 40)) dOk (k + 40) (codeAt Try.prog (tn0 53) 53 0) 0 0 { sl := [(0, .v (.sc (.d 3 (.int .i64) (x0)))), (1, .v (.sc (.fn 46 0 [none] [.ptr 0 0]))), (7, .v (.sc (.int .i64 (x1)))), (8, .v (.sc (.int .i64 (x2))))], lo := [], h := [.box 53 [.fn 33 0 [] []]], n0 := 1, w := false } cN cX = (cond (decide (x2 < x1)) (cond (decide ((0 : Int) ≤ x2)) (cond (decide (x2 < (↑(List.length x0) : Int))) (cond (ok (v46 (List.getD x0 (Int.toNat x2) (0 : Int)))) (cond (val (v46 (List.getD x0 (Int.toNat x2) (0 : Int)))) (cX .ret { sl := [(4, .v (.sc (.int .i64 (x2))))], lo := [], h := [.box 53 [.fn 33 0 [] []]], n0 := 1, w := true }) (cN { sl := [(0, .v (.sc (.d 3 (.int .i64) (x0)))), (1, .v (.sc (.fn 46 0 [none] [.ptr 0 0]))), (7, .v (.sc (.int .i64 (x1)))), (8, .v (.sc (.int .i64 (IntKind.wrap IntKind.i64 (x2 + (1 : Int))))))], lo := [], h := [.box 53 [.fn 33 0 [] []]], n0 := 1, w := false })) none) none) none) (cX (.exit 0) { sl := [], lo := [], h := [.box 53 [.fn 33 0 [] []]], n0 := 1, w := false })) := by kernel_rfl
theorem lL53_0_0 (k m : Nat) : ∀ (n : Nat) (x0 : (List Int)) (x1 : Int) (x2 : Int) (r : (Int ⊕ Unit)), L53_0_0 n x0 x1 x2 = some r → loopE Try.prog (mkTn base o7 t7 53) (TM.evF Try.prog (mkTn base o7 t7) dOk (k + 40)) dOk (k + 40) (codeAt Try.prog (tn0 53) 53 0) 0 0 (n + m) { sl := [(0, .v (.sc (.d 3 (.int .i64) (x0)))), (1, .v (.sc (.fn 46 0 [none] [.ptr 0 0]))), (7, .v (.sc (.int .i64 (x1)))), (8, .v (.sc (.int .i64 (x2))))], lo := [], h := [.box 53 [.fn 33 0 [] []]], n0 := 1, w := false } = some (xL53_0_0 x0 x1 x2 r) := by
  intro n
  induction n with
  | zero => intro _ _ _ r h; cases h
  | succ n ih =>
    intro x0 x1 x2 r
    rw [show n + 1 + m = n + m + 1 by omega, loop_step, bL53_0_0, qL53_0_0]
    refine cond_go ?_ ?_
    · refine cond_go ?_ ?_
      · refine cond_go ?_ ?_
        · refine cond_go ?_ ?_
          · refine cond_go ?_ ?_
            · intro h; cases h; rfl
            · exact ih _ _ _ r
          · intro h; cases h
        · intro h; cases h
      · intro h; cases h
    · intro h; cases h; rfl
noncomputable def sL53_0_0 : TellS := fun S => dCS 1 S fun y1 y2 y3 => dSs 0 y1 fun y5 l4 => dD 3 (.int .i64) y5 fun x0 => dSs 1 l4 fun y7 l6 => dFn 46 0 [none] y7 fun y8 => dC y8 fun y9 l10 => dPtr 0 0 y9 <| dE l10 <| dSI 7 .i64 l6 fun x1 l11 => dSI 8 .i64 l11 fun x2 l12 => dE l12 <| dE y2 <| dHB 53 y3 fun y14 l13 => dC y14 fun y15 l16 => dFn 33 0 [] y15 fun y17 => dE y17 <| dE l16 <| dE l13 <|  some [(isL (L53_0_0 FU x0 x1 x2), .ret, { sl := [(4, .v (.sc (.int .i64 ((getL (L53_0_0 FU x0 x1 x2))))))], lo := [], h := [.box 53 [.fn 33 0 [] []]], n0 := 1, w := true }), (ok (getR (L53_0_0 FU x0 x1 x2)), (.exit 0), { sl := [], lo := [], h := [.box 53 [.fn 33 0 [] []]], n0 := 1, w := false })]
theorem wL53_0_0 : NewTell Try.prog dOk base o7 t7 ((53, 0), sL53_0_0) := by
  refine ⟨.loop (codeAt Try.prog (tn0 53) 53 0), 0, by kernel_rfl, ?_⟩
  intro S alts e S' h10 h2
  have h1 : sL53_0_0 S = some alts := h10
  clear h10
  unfold sL53_0_0 at h1
  replace h1 := dCS_some h1; obtain ⟨y1, y2, y3, rfl, h1⟩ := h1
  replace h1 := dSs_some h1; obtain ⟨y5, l4, rfl, h1⟩ := h1
  replace h1 := dD_some h1; obtain ⟨x0, rfl, h1⟩ := h1
  replace h1 := dSs_some h1; obtain ⟨y7, l6, rfl, h1⟩ := h1
  replace h1 := dFn_some h1; obtain ⟨y8, rfl, h1⟩ := h1
  replace h1 := dC_some h1; obtain ⟨y9, l10, rfl, h1⟩ := h1
  replace h1 := dPtr_some h1; obtain ⟨rfl, h1⟩ := h1
  replace h1 := dE_some h1; obtain ⟨rfl, h1⟩ := h1
  replace h1 := dSI_some h1; obtain ⟨x1, l11, rfl, h1⟩ := h1
  replace h1 := dSI_some h1; obtain ⟨x2, l12, rfl, h1⟩ := h1
  replace h1 := dE_some h1; obtain ⟨rfl, h1⟩ := h1
  replace h1 := dE_some h1; obtain ⟨rfl, h1⟩ := h1
  replace h1 := dHB_some h1; obtain ⟨y14, l13, rfl, h1⟩ := h1
  replace h1 := dC_some h1; obtain ⟨y15, l16, rfl, h1⟩ := h1
  replace h1 := dFn_some h1; obtain ⟨y17, rfl, h1⟩ := h1
  replace h1 := dE_some h1; obtain ⟨rfl, h1⟩ := h1
  replace h1 := dE_some h1; obtain ⟨rfl, h1⟩ := h1
  replace h1 := dE_some h1; obtain ⟨rfl, h1⟩ := h1
  cases h1
  rcases pick_cons h2 with ⟨hc0, rfl, rfl⟩ | h2
  · exact ⟨FU + 40, (evPiece_loop rfl).trans (lL53_0_0 FU 40 FU _ _ _ _ (isL_val hc0))⟩
  obtain ⟨hc1, rfl, rfl⟩ := pick_one h2
  exact ⟨FU + 40, (evPiece_loop rfl).trans (lL53_0_0 FU 40 FU _ _ _ _ (getR_val (ok_val hc1)))⟩
noncomputable def o8 : OrcT := o7
noncomputable def t8 : TellT := ((53, 0), sL53_0_0) :: t7
noncomputable abbrev tn8 : FuncId → TAn := mkTn base o8 t8
theorem ok8 : TnOk Try.prog tn8 (mkA base) dOk := by
  have h0 : TnOk Try.prog (mkTn base o7 t7) (mkA base) dOk := ok7
  have h1 := tn_tell h0 h0 (p := ((53, 0), sL53_0_0)) wL53_0_0
  exact h1
noncomputable def v53 (x0 : (List Int)) : Option Int := (cond (isL (L53_0_0 FU x0 (↑(List.length x0) : Int) (0 : Int))) (some (getL (L53_0_0 FU x0 (↑(List.length x0) : Int) (0 : Int)))) (cond (ok (getR (L53_0_0 FU x0 (↑(List.length x0) : Int) (0 : Int)))) (some ((-1 : Int))) none))
theorem ev53 (x0 : (List Int)) : fnBody Try.prog (mkTn base o8 t8 53) (TM.evF Try.prog (mkTn base o8 t8) dOk 40) dOk 40 53 [.sc (.d 3 (.int .i64) (x0)), .sc (.fn 46 0 [none] [.ptr 0 0])] [.box 53 [.fn 33 0 [] []]] = (v53 x0).bind fun r => some ([.sc (.int .i64 (r))], [.box 53 [.fn 33 0 [] []]]) := by
  refine Eq.trans (b := (cond (isL (L53_0_0 FU x0 (↑(List.length x0) : Int) (0 : Int))) (some ([.sc (.int .i64 (getL (L53_0_0 FU x0 (↑(List.length x0) : Int) (0 : Int))))], [.box 53 [.fn 33 0 [] []]])) (cond (ok (getR (L53_0_0 FU x0 (↑(List.length x0) : Int) (0 : Int)))) (some ([.sc (.int .i64 ((-1 : Int)))], [.box 53 [.fn 33 0 [] []]])) none))) (by kernel_rfl) ?_
  unfold v53
  refine cond_bd ?_ ?_
  · rfl
  · refine cond_bd ?_ ?_
    · rfl
    · rfl
noncomputable def sv53 : OrcS := fun al H => dC al fun y1 l2 => dS y1 fun y3 => dD 3 (.int .i64) y3 fun x0 => dC l2 fun y4 l5 => dS y4 fun y6 => dFn 46 0 [none] y6 fun y7 => dC y7 fun y8 l9 => dPtr 0 0 y8 <| dE l9 <| dE l5 <| dHB 53 H fun y11 l10 => dC y11 fun y12 l13 => dFn 33 0 [] y12 fun y14 => dE y14 <| dE l13 <| dE l10 <|  some [(ok (v53 x0), [.sc (.int .i64 ((val (v53 x0))))], [.box 53 [.fn 33 0 [] []]])]
theorem wv53 : NewOrc Try.prog dOk base o8 t8 (53, sv53) := by
  intro al H q hq0 rs H2 h2
  have hq : sv53 al H = some q := hq0
  clear hq0
  unfold sv53 at hq
  replace hq := dC_some hq; obtain ⟨y1, l2, rfl, hq⟩ := hq
  replace hq := dS_some hq; obtain ⟨y3, rfl, hq⟩ := hq
  replace hq := dD_some hq; obtain ⟨x0, rfl, hq⟩ := hq
  replace hq := dC_some hq; obtain ⟨y4, l5, rfl, hq⟩ := hq
  replace hq := dS_some hq; obtain ⟨y6, rfl, hq⟩ := hq
  replace hq := dFn_some hq; obtain ⟨y7, rfl, hq⟩ := hq
  replace hq := dC_some hq; obtain ⟨y8, l9, rfl, hq⟩ := hq
  replace hq := dPtr_some hq; obtain ⟨rfl, hq⟩ := hq
  replace hq := dE_some hq; obtain ⟨rfl, hq⟩ := hq
  replace hq := dE_some hq; obtain ⟨rfl, hq⟩ := hq
  replace hq := dHB_some hq; obtain ⟨y11, l10, rfl, hq⟩ := hq
  replace hq := dC_some hq; obtain ⟨y12, l13, rfl, hq⟩ := hq
  replace hq := dFn_some hq; obtain ⟨y14, rfl, hq⟩ := hq
  replace hq := dE_some hq; obtain ⟨rfl, hq⟩ := hq
  replace hq := dE_some hq; obtain ⟨rfl, hq⟩ := hq
  replace hq := dE_some hq; obtain ⟨rfl, hq⟩ := hq
  cases hq
  obtain ⟨hc0, rfl, rfl⟩ := pickR_one h2
  exact ⟨41, (fn_eq (by kernel_rfl)).trans ((ev53 _).trans (bind_of (ok_val hc0)))⟩
noncomputable def o9 : OrcT := (53, sv53) :: o8
noncomputable def t9 : TellT := t8
noncomputable abbrev tn9 : FuncId → TAn := mkTn base o9 t9
theorem ok9 : TnOk Try.prog tn9 (mkA base) dOk := by
  have h0 : TnOk Try.prog (mkTn base o8 t8) (mkA base) dOk := ok8
  have h1 := tn_orc h0 h0 (p := (53, sv53)) wv53
  exact h1
noncomputable def v45 (x0 : (List Int)) : Option Bool := (cond (ok (v53 x0)) (some (decide (val (v53 x0) ≥ (0 : Int)))) none)
theorem ev45 (x0 : (List Int)) : fnBody Try.prog (mkTn base o9 t9 45) (TM.evF Try.prog (mkTn base o9 t9) dOk 40) dOk 40 45 [.sc (.d 3 (.int .i64) (x0)), .sc (.fn 46 0 [none] [.ptr 0 0])] [.box 53 [.fn 33 0 [] []]] = (v45 x0).bind fun r => some ([.sc (.bool (r))], [.box 53 [.fn 33 0 [] []]]) := by
  refine Eq.trans (b := (cond (ok (v53 x0)) (some ([.sc (.bool (decide (val (v53 x0) ≥ (0 : Int))))], [.box 53 [.fn 33 0 [] []]])) none)) (by kernel_rfl) ?_
  unfold v45
  refine cond_bd ?_ ?_
  · rfl
  · rfl
noncomputable def sv45 : OrcS := fun al H => dC al fun y1 l2 => dS y1 fun y3 => dD 3 (.int .i64) y3 fun x0 => dC l2 fun y4 l5 => dS y4 fun y6 => dFn 46 0 [none] y6 fun y7 => dC y7 fun y8 l9 => dPtr 0 0 y8 <| dE l9 <| dE l5 <| dHB 53 H fun y11 l10 => dC y11 fun y12 l13 => dFn 33 0 [] y12 fun y14 => dE y14 <| dE l13 <| dE l10 <|  some [(ok (v45 x0), [.sc (.bool ((val (v45 x0))))], [.box 53 [.fn 33 0 [] []]])]
theorem wv45 : NewOrc Try.prog dOk base o9 t9 (45, sv45) := by
  intro al H q hq0 rs H2 h2
  have hq : sv45 al H = some q := hq0
  clear hq0
  unfold sv45 at hq
  replace hq := dC_some hq; obtain ⟨y1, l2, rfl, hq⟩ := hq
  replace hq := dS_some hq; obtain ⟨y3, rfl, hq⟩ := hq
  replace hq := dD_some hq; obtain ⟨x0, rfl, hq⟩ := hq
  replace hq := dC_some hq; obtain ⟨y4, l5, rfl, hq⟩ := hq
  replace hq := dS_some hq; obtain ⟨y6, rfl, hq⟩ := hq
  replace hq := dFn_some hq; obtain ⟨y7, rfl, hq⟩ := hq
  replace hq := dC_some hq; obtain ⟨y8, l9, rfl, hq⟩ := hq
  replace hq := dPtr_some hq; obtain ⟨rfl, hq⟩ := hq
  replace hq := dE_some hq; obtain ⟨rfl, hq⟩ := hq
  replace hq := dE_some hq; obtain ⟨rfl, hq⟩ := hq
  replace hq := dHB_some hq; obtain ⟨y11, l10, rfl, hq⟩ := hq
  replace hq := dC_some hq; obtain ⟨y12, l13, rfl, hq⟩ := hq
  replace hq := dFn_some hq; obtain ⟨y14, rfl, hq⟩ := hq
  replace hq := dE_some hq; obtain ⟨rfl, hq⟩ := hq
  replace hq := dE_some hq; obtain ⟨rfl, hq⟩ := hq
  replace hq := dE_some hq; obtain ⟨rfl, hq⟩ := hq
  cases hq
  obtain ⟨hc0, rfl, rfl⟩ := pickR_one h2
  exact ⟨41, (fn_eq (by kernel_rfl)).trans ((ev45 _).trans (bind_of (ok_val hc0)))⟩
noncomputable def o10 : OrcT := (45, sv45) :: o9
noncomputable def t10 : TellT := t9
noncomputable abbrev tn10 : FuncId → TAn := mkTn base o10 t10
theorem ok10 : TnOk Try.prog tn10 (mkA base) dOk := by
  have h0 : TnOk Try.prog (mkTn base o9 t9) (mkA base) dOk := ok9
  have h1 := tn_orc h0 h0 (p := (45, sv45)) wv45
  exact h1
noncomputable def v32 (x0 : (List Int)) : Option Bool := (cond (ok (v45 x0)) (some (!val (v45 x0))) none)
theorem ev32 (x0 : (List Int)) : fnBody Try.prog (mkTn base o10 t10 32) (TM.evF Try.prog (mkTn base o10 t10) dOk 40) dOk 40 32 [.sc (.d 3 (.int .i64) (x0)), .sc (.fn 33 0 [] [])] [] = (v32 x0).bind fun r => some ([.sc (.bool (r))], []) := by
  refine Eq.trans (b := (cond (ok (v45 x0)) (some ([.sc (.bool (!val (v45 x0)))], [])) none)) (by kernel_rfl) ?_
  unfold v32
  refine cond_bd ?_ ?_
  · rfl
  · rfl
noncomputable def sv32 : OrcS := fun al H => dC al fun y1 l2 => dS y1 fun y3 => dD 3 (.int .i64) y3 fun x0 => dC l2 fun y4 l5 => dS y4 fun y6 => dFn 33 0 [] y6 fun y7 => dE y7 <| dE l5 <| dE H <|  some [(ok (v32 x0), [.sc (.bool ((val (v32 x0))))], [])]
theorem wv32 : NewOrc Try.prog dOk base o10 t10 (32, sv32) := by
  intro al H q hq0 rs H2 h2
  have hq : sv32 al H = some q := hq0
  clear hq0
  unfold sv32 at hq
  replace hq := dC_some hq; obtain ⟨y1, l2, rfl, hq⟩ := hq
  replace hq := dS_some hq; obtain ⟨y3, rfl, hq⟩ := hq
  replace hq := dD_some hq; obtain ⟨x0, rfl, hq⟩ := hq
  replace hq := dC_some hq; obtain ⟨y4, l5, rfl, hq⟩ := hq
  replace hq := dS_some hq; obtain ⟨y6, rfl, hq⟩ := hq
  replace hq := dFn_some hq; obtain ⟨y7, rfl, hq⟩ := hq
  replace hq := dE_some hq; obtain ⟨rfl, hq⟩ := hq
  replace hq := dE_some hq; obtain ⟨rfl, hq⟩ := hq
  replace hq := dE_some hq; obtain ⟨rfl, hq⟩ := hq
  cases hq
  obtain ⟨hc0, rfl, rfl⟩ := pickR_one h2
  exact ⟨41, (fn_eq (by kernel_rfl)).trans ((ev32 _).trans (bind_of (ok_val hc0)))⟩
noncomputable def o11 : OrcT := (32, sv32) :: o10
noncomputable def t11 : TellT := t10
noncomputable abbrev tn11 : FuncId → TAn := mkTn base o11 t11
theorem ok11 : TnOk Try.prog tn11 (mkA base) dOk := by
  have h0 : TnOk Try.prog (mkTn base o10 t10) (mkA base) dOk := ok10
  have h1 := tn_orc h0 h0 (p := (32, sv32)) wv32
  exact h1
noncomputable def L38_0_0 : Nat → (List Int) → Int → Int → (List Int) → Int → Int → Option (Bool ⊕ Unit)
  | 0, _, _, _, _, _, _ => none
  | n + 1, x0, x1, x2, x3, x4, x5 => (cond (decide (x5 < x4)) (cond (decide ((0 : Int) ≤ x5)) (cond (decide (x5 < (↑(List.length x3) : Int))) (cond (decide (List.getD x3 (Int.toNat x5) (0 : Int) ≤ x2)) (some (.inl (false))) (cond (decide (List.getD x3 (Int.toNat x5) (0 : Int) ≥ x1)) (some (.inl (false))) (L38_0_0 n (x0) (x1) (List.getD x3 (Int.toNat x5) (0 : Int)) (x3) (x4) (IntKind.wrap IntKind.i64 (x5 + (1 : Int)))))) none) none) (some (.inr ())))
theorem qL38_0_0 : type_of% @L38_0_0.eq_2 := @L38_0_0.eq_2
noncomputable def xL38_0_0 (x0 : (List Int)) (x1 : Int) (x2 : Int) (x3 : (List Int)) (x4 : Int) (x5 : Int) : (Bool ⊕ Unit) → Ex × CS := fun r => match r with | .inl a0 => (.ret, { sl := [(4, .v (.sc (.bool (a0))))], lo := [], h := [], n0 := 0, w := true }) | .inr b0 => ((.exit 0), { sl := [(0, .v (.sc (.d 3 (.int .i64) (x0))))], lo := [], h := [], n0 := 0, w := false })
theorem bL38_0_0 (k : Nat) (cN : CS → Option (Ex × CS)) (cX : Ex → CS → Option (Ex × CS)) (x0 : (List Int)) (x1 : Int) (x2 : Int) (x3 : (List Int)) (x4 : Int) (x5 : Int) : loopBody Try.prog (mkTn base o11 t11 38) (TM.evF Try.prog (mkTn base o11 t11) dOk (k + 40)) dOk (k + 40) (codeAt Try.prog (tn0 38) 38 0) 0 0 { sl := [(0, .v (.sc (.d 3 (.int .i64) (x0)))), (1, .v (.sc (.int .i64 (x1)))), (5, .v (.sc (.int .i64 (x2)))), (8, .v (.sc (.d 3 (.int .i64) (x3)))), (9, .v (.sc (.int .i64 (x4)))), (10, .v (.sc (.int .i64 (x5))))], lo := [], h := [], n0 := 0, w := false } cN cX = (cond (decide (x5 < x4)) (cond (decide ((0 : Int) ≤ x5)) (cond (decide (x5 < (↑(List.length x3) : Int))) (cond (decide (List.getD x3 (Int.toNat x5) (0 : Int) ≤ x2)) (cX .ret { sl := [(4, .v (.sc (.bool (false))))], lo := [], h := [], n0 := 0, w := true }) (cond (decide (List.getD x3 (Int.toNat x5) (0 : Int) ≥ x1)) (cX .ret { sl := [(4, .v (.sc (.bool (false))))], lo := [], h := [], n0 := 0, w := true }) (cN { sl := [(0, .v (.sc (.d 3 (.int .i64) (x0)))), (1, .v (.sc (.int .i64 (x1)))), (5, .v (.sc (.int .i64 (List.getD x3 (Int.toNat x5) (0 : Int))))), (8, .v (.sc (.d 3 (.int .i64) (x3)))), (9, .v (.sc (.int .i64 (x4)))), (10, .v (.sc (.int .i64 (IntKind.wrap IntKind.i64 (x5 + (1 : Int))))))], lo := [], h := [], n0 := 0, w := false }))) none) none) (cX (.exit 0) { sl := [(0, .v (.sc (.d 3 (.int .i64) (x0))))], lo := [], h := [], n0 := 0, w := false })) := by kernel_rfl
theorem lL38_0_0 (k m : Nat) : ∀ (n : Nat) (x0 : (List Int)) (x1 : Int) (x2 : Int) (x3 : (List Int)) (x4 : Int) (x5 : Int) (r : (Bool ⊕ Unit)), L38_0_0 n x0 x1 x2 x3 x4 x5 = some r → loopE Try.prog (mkTn base o11 t11 38) (TM.evF Try.prog (mkTn base o11 t11) dOk (k + 40)) dOk (k + 40) (codeAt Try.prog (tn0 38) 38 0) 0 0 (n + m) { sl := [(0, .v (.sc (.d 3 (.int .i64) (x0)))), (1, .v (.sc (.int .i64 (x1)))), (5, .v (.sc (.int .i64 (x2)))), (8, .v (.sc (.d 3 (.int .i64) (x3)))), (9, .v (.sc (.int .i64 (x4)))), (10, .v (.sc (.int .i64 (x5))))], lo := [], h := [], n0 := 0, w := false } = some (xL38_0_0 x0 x1 x2 x3 x4 x5 r) := by
  intro n
  induction n with
  | zero => intro _ _ _ _ _ _ r h; cases h
  | succ n ih =>
    intro x0 x1 x2 x3 x4 x5 r
    rw [show n + 1 + m = n + m + 1 by omega, loop_step, bL38_0_0, qL38_0_0]
    refine cond_go ?_ ?_
    · refine cond_go ?_ ?_
      · refine cond_go ?_ ?_
        · refine cond_go ?_ ?_
          · intro h; cases h; rfl
          · refine cond_go ?_ ?_
            · intro h; cases h; rfl
            · exact ih _ _ _ _ _ _ r
        · intro h; cases h
      · intro h; cases h
    · intro h; cases h; rfl
noncomputable def sL38_0_0 : TellS := fun S => dCS 0 S fun y1 y2 y3 => dSs 0 y1 fun y5 l4 => dD 3 (.int .i64) y5 fun x0 => dSI 1 .i64 l4 fun x1 l6 => dSI 5 .i64 l6 fun x2 l7 => dSs 8 l7 fun y9 l8 => dD 3 (.int .i64) y9 fun x3 => dSI 9 .i64 l8 fun x4 l10 => dSI 10 .i64 l10 fun x5 l11 => dE l11 <| dE y2 <| dE y3 <|  some [(isL (L38_0_0 FU x0 x1 x2 x3 x4 x5), .ret, { sl := [(4, .v (.sc (.bool ((getL (L38_0_0 FU x0 x1 x2 x3 x4 x5))))))], lo := [], h := [], n0 := 0, w := true }), (ok (getR (L38_0_0 FU x0 x1 x2 x3 x4 x5)), (.exit 0), { sl := [(0, .v (.sc (.d 3 (.int .i64) (x0))))], lo := [], h := [], n0 := 0, w := false })]
theorem wL38_0_0 : NewTell Try.prog dOk base o11 t11 ((38, 0), sL38_0_0) := by
  refine ⟨.loop (codeAt Try.prog (tn0 38) 38 0), 0, by kernel_rfl, ?_⟩
  intro S alts e S' h10 h2
  have h1 : sL38_0_0 S = some alts := h10
  clear h10
  unfold sL38_0_0 at h1
  replace h1 := dCS_some h1; obtain ⟨y1, y2, y3, rfl, h1⟩ := h1
  replace h1 := dSs_some h1; obtain ⟨y5, l4, rfl, h1⟩ := h1
  replace h1 := dD_some h1; obtain ⟨x0, rfl, h1⟩ := h1
  replace h1 := dSI_some h1; obtain ⟨x1, l6, rfl, h1⟩ := h1
  replace h1 := dSI_some h1; obtain ⟨x2, l7, rfl, h1⟩ := h1
  replace h1 := dSs_some h1; obtain ⟨y9, l8, rfl, h1⟩ := h1
  replace h1 := dD_some h1; obtain ⟨x3, rfl, h1⟩ := h1
  replace h1 := dSI_some h1; obtain ⟨x4, l10, rfl, h1⟩ := h1
  replace h1 := dSI_some h1; obtain ⟨x5, l11, rfl, h1⟩ := h1
  replace h1 := dE_some h1; obtain ⟨rfl, h1⟩ := h1
  replace h1 := dE_some h1; obtain ⟨rfl, h1⟩ := h1
  replace h1 := dE_some h1; obtain ⟨rfl, h1⟩ := h1
  cases h1
  rcases pick_cons h2 with ⟨hc0, rfl, rfl⟩ | h2
  · exact ⟨FU + 40, (evPiece_loop rfl).trans (lL38_0_0 FU 40 FU _ _ _ _ _ _ _ (isL_val hc0))⟩
  obtain ⟨hc1, rfl, rfl⟩ := pick_one h2
  exact ⟨FU + 40, (evPiece_loop rfl).trans (lL38_0_0 FU 40 FU _ _ _ _ _ _ _ (getR_val (ok_val hc1)))⟩
noncomputable def o12 : OrcT := o11
noncomputable def t12 : TellT := ((38, 0), sL38_0_0) :: t11
noncomputable abbrev tn12 : FuncId → TAn := mkTn base o12 t12
theorem ok12 : TnOk Try.prog tn12 (mkA base) dOk := by
  have h0 : TnOk Try.prog (mkTn base o11 t11) (mkA base) dOk := ok11
  have h1 := tn_tell h0 h0 (p := ((38, 0), sL38_0_0)) wL38_0_0
  exact h1
noncomputable def v38 (x0 : (List Int)) (x1 : Int) : Option Bool := (cond (isL (L38_0_0 FU x0 x1 (-1 : Int) x0 (↑(List.length x0) : Int) (0 : Int))) (some (getL (L38_0_0 FU x0 x1 (-1 : Int) x0 (↑(List.length x0) : Int) (0 : Int)))) (cond (ok (getR (L38_0_0 FU x0 x1 (-1 : Int) x0 (↑(List.length x0) : Int) (0 : Int)))) (cond (ok (v31 (↑(List.length x0) : Int) (1 : Int) (6 : Int))) (some (val (v31 (↑(List.length x0) : Int) (1 : Int) (6 : Int)))) none) none))
theorem ev38 (x0 : (List Int)) (x1 : Int) : fnBody Try.prog (mkTn base o12 t12 38) (TM.evF Try.prog (mkTn base o12 t12) dOk 40) dOk 40 38 [.sc (.d 3 (.int .i64) (x0)), .sc (.int .i64 (x1))] [] = (v38 x0 x1).bind fun r => some ([.sc (.bool (r))], []) := by
  refine Eq.trans (b := (cond (isL (L38_0_0 FU x0 x1 (-1 : Int) x0 (↑(List.length x0) : Int) (0 : Int))) (some ([.sc (.bool (getL (L38_0_0 FU x0 x1 (-1 : Int) x0 (↑(List.length x0) : Int) (0 : Int))))], [])) (cond (ok (getR (L38_0_0 FU x0 x1 (-1 : Int) x0 (↑(List.length x0) : Int) (0 : Int)))) (cond (ok (v31 (↑(List.length x0) : Int) (1 : Int) (6 : Int))) (some ([.sc (.bool (val (v31 (↑(List.length x0) : Int) (1 : Int) (6 : Int))))], [])) none) none))) (by kernel_rfl) ?_
  unfold v38
  refine cond_bd ?_ ?_
  · rfl
  · refine cond_bd ?_ ?_
    · refine cond_bd ?_ ?_
      · rfl
      · rfl
    · rfl
noncomputable def sv38 : OrcS := fun al H => dC al fun y1 l2 => dS y1 fun y3 => dD 3 (.int .i64) y3 fun x0 => dC l2 fun y4 l5 => dS y4 fun y6 => dInt .i64 y6 fun x1 => dE l5 <| dE H <|  some [(ok (v38 x0 x1), [.sc (.bool ((val (v38 x0 x1))))], [])]
theorem wv38 : NewOrc Try.prog dOk base o12 t12 (38, sv38) := by
  intro al H q hq0 rs H2 h2
  have hq : sv38 al H = some q := hq0
  clear hq0
  unfold sv38 at hq
  replace hq := dC_some hq; obtain ⟨y1, l2, rfl, hq⟩ := hq
  replace hq := dS_some hq; obtain ⟨y3, rfl, hq⟩ := hq
  replace hq := dD_some hq; obtain ⟨x0, rfl, hq⟩ := hq
  replace hq := dC_some hq; obtain ⟨y4, l5, rfl, hq⟩ := hq
  replace hq := dS_some hq; obtain ⟨y6, rfl, hq⟩ := hq
  replace hq := dInt_some hq; obtain ⟨x1, rfl, hq⟩ := hq
  replace hq := dE_some hq; obtain ⟨rfl, hq⟩ := hq
  replace hq := dE_some hq; obtain ⟨rfl, hq⟩ := hq
  cases hq
  obtain ⟨hc0, rfl, rfl⟩ := pickR_one h2
  exact ⟨41, (fn_eq (by kernel_rfl)).trans ((ev38 _ _).trans (bind_of (ok_val hc0)))⟩
noncomputable def o13 : OrcT := (38, sv38) :: o12
noncomputable def t13 : TellT := t12
noncomputable abbrev tn13 : FuncId → TAn := mkTn base o13 t13
theorem ok13 : TnOk Try.prog tn13 (mkA base) dOk := by
  have h0 : TnOk Try.prog (mkTn base o12 t12) (mkA base) dOk := ok12
  have h1 := tn_orc h0 h0 (p := (38, sv38)) wv38
  exact h1
noncomputable def v37 (x0 : (List Int)) (x1 : (List Int)) (x2 : (List (List (List Int)))) : Option Bool := (cond (ok (v38 x0 (↑(List.length x1) : Int))) (some (val (v38 x0 (↑(List.length x1) : Int)))) none)
theorem ev37 (x0 : (List Int)) (x1 : (List Int)) (x2 : (List (List (List Int)))) : fnBody Try.prog (mkTn base o13 t13 37) (TM.evF Try.prog (mkTn base o13 t13) dOk 40) dOk 40 37 [.sc (.d 3 (.int .i64) (x0)), .sc (.ptr 0 0)] [.box 25 [.d 3 (.int .i64) (x1), .d 26 (.list 22 (.list 3 (.int .i64))) (x2)]] = (v37 x0 x1 x2).bind fun r => some ([.sc (.bool (r))], [.box 25 [.d 3 (.int .i64) (x1), .d 26 (.list 22 (.list 3 (.int .i64))) (x2)]]) := by
  refine Eq.trans (b := (cond (ok (v38 x0 (↑(List.length x1) : Int))) (some ([.sc (.bool (val (v38 x0 (↑(List.length x1) : Int))))], [.box 25 [.d 3 (.int .i64) (x1), .d 26 (.list 22 (.list 3 (.int .i64))) (x2)]])) none)) (by kernel_rfl) ?_
  unfold v37
  refine cond_bd ?_ ?_
  · rfl
  · rfl
noncomputable def sv37 : OrcS := fun al H => dC al fun y1 l2 => dS y1 fun y3 => dD 3 (.int .i64) y3 fun x0 => dC l2 fun y4 l5 => dS y4 fun y6 => dPtr 0 0 y6 <| dE l5 <| dHB 25 H fun y8 l7 => dC y8 fun y9 l10 => dD 3 (.int .i64) y9 fun x1 => dC l10 fun y11 l12 => dD 26 (.list 22 (.list 3 (.int .i64))) y11 fun x2 => dE l12 <| dE l7 <|  some [(ok (v37 x0 x1 x2), [.sc (.bool ((val (v37 x0 x1 x2))))], [.box 25 [.d 3 (.int .i64) (x1), .d 26 (.list 22 (.list 3 (.int .i64))) (x2)]])]
theorem wv37 : NewOrc Try.prog dOk base o13 t13 (37, sv37) := by
  intro al H q hq0 rs H2 h2
  have hq : sv37 al H = some q := hq0
  clear hq0
  unfold sv37 at hq
  replace hq := dC_some hq; obtain ⟨y1, l2, rfl, hq⟩ := hq
  replace hq := dS_some hq; obtain ⟨y3, rfl, hq⟩ := hq
  replace hq := dD_some hq; obtain ⟨x0, rfl, hq⟩ := hq
  replace hq := dC_some hq; obtain ⟨y4, l5, rfl, hq⟩ := hq
  replace hq := dS_some hq; obtain ⟨y6, rfl, hq⟩ := hq
  replace hq := dPtr_some hq; obtain ⟨rfl, hq⟩ := hq
  replace hq := dE_some hq; obtain ⟨rfl, hq⟩ := hq
  replace hq := dHB_some hq; obtain ⟨y8, l7, rfl, hq⟩ := hq
  replace hq := dC_some hq; obtain ⟨y9, l10, rfl, hq⟩ := hq
  replace hq := dD_some hq; obtain ⟨x1, rfl, hq⟩ := hq
  replace hq := dC_some hq; obtain ⟨y11, l12, rfl, hq⟩ := hq
  replace hq := dD_some hq; obtain ⟨x2, rfl, hq⟩ := hq
  replace hq := dE_some hq; obtain ⟨rfl, hq⟩ := hq
  replace hq := dE_some hq; obtain ⟨rfl, hq⟩ := hq
  cases hq
  obtain ⟨hc0, rfl, rfl⟩ := pickR_one h2
  exact ⟨41, (fn_eq (by kernel_rfl)).trans ((ev37 _ _ _).trans (bind_of (ok_val hc0)))⟩
noncomputable def o14 : OrcT := (37, sv37) :: o13
noncomputable def t14 : TellT := t13
noncomputable abbrev tn14 : FuncId → TAn := mkTn base o14 t14
theorem ok14 : TnOk Try.prog tn14 (mkA base) dOk := by
  have h0 : TnOk Try.prog (mkTn base o13 t13) (mkA base) dOk := ok13
  have h1 := tn_orc h0 h0 (p := (37, sv37)) wv37
  exact h1
noncomputable def v50 (x0 : (List Int)) (x1 : (List Int)) (x2 : (List (List (List Int)))) : Option Bool := (cond (ok (v37 x0 x1 x2)) (some (!val (v37 x0 x1 x2))) none)
theorem ev50 (x0 : (List Int)) (x1 : (List Int)) (x2 : (List (List (List Int)))) : fnBody Try.prog (mkTn base o14 t14 50) (TM.evF Try.prog (mkTn base o14 t14) dOk 40) dOk 40 50 [.sc (.d 3 (.int .i64) (x0)), .sc (.ptr 0 0)] [.box 57 [.fn 37 0 [none] [.ptr 1 0]], .box 25 [.d 3 (.int .i64) (x1), .d 26 (.list 22 (.list 3 (.int .i64))) (x2)]] = (v50 x0 x1 x2).bind fun r => some ([.sc (.bool (r))], [.box 57 [.fn 37 0 [none] [.ptr 1 0]], .box 25 [.d 3 (.int .i64) (x1), .d 26 (.list 22 (.list 3 (.int .i64))) (x2)]]) := by
  refine Eq.trans (b := (cond (ok (v37 x0 x1 x2)) (some ([.sc (.bool (!val (v37 x0 x1 x2)))], [.box 57 [.fn 37 0 [none] [.ptr 1 0]], .box 25 [.d 3 (.int .i64) (x1), .d 26 (.list 22 (.list 3 (.int .i64))) (x2)]])) none)) (by kernel_rfl) ?_
  unfold v50
  refine cond_bd ?_ ?_
  · rfl
  · rfl
noncomputable def sv50 : OrcS := fun al H => dC al fun y1 l2 => dS y1 fun y3 => dD 3 (.int .i64) y3 fun x0 => dC l2 fun y4 l5 => dS y4 fun y6 => dPtr 0 0 y6 <| dE l5 <| dHB 57 H fun y8 l7 => dC y8 fun y9 l10 => dFn 37 0 [none] y9 fun y11 => dC y11 fun y12 l13 => dPtr 1 0 y12 <| dE l13 <| dE l10 <| dHB 25 l7 fun y15 l14 => dC y15 fun y16 l17 => dD 3 (.int .i64) y16 fun x1 => dC l17 fun y18 l19 => dD 26 (.list 22 (.list 3 (.int .i64))) y18 fun x2 => dE l19 <| dE l14 <|  some [(ok (v50 x0 x1 x2), [.sc (.bool ((val (v50 x0 x1 x2))))], [.box 57 [.fn 37 0 [none] [.ptr 1 0]], .box 25 [.d 3 (.int .i64) (x1), .d 26 (.list 22 (.list 3 (.int .i64))) (x2)]])]
theorem wv50 : NewOrc Try.prog dOk base o14 t14 (50, sv50) := by
  intro al H q hq0 rs H2 h2
  have hq : sv50 al H = some q := hq0
  clear hq0
  unfold sv50 at hq
  replace hq := dC_some hq; obtain ⟨y1, l2, rfl, hq⟩ := hq
  replace hq := dS_some hq; obtain ⟨y3, rfl, hq⟩ := hq
  replace hq := dD_some hq; obtain ⟨x0, rfl, hq⟩ := hq
  replace hq := dC_some hq; obtain ⟨y4, l5, rfl, hq⟩ := hq
  replace hq := dS_some hq; obtain ⟨y6, rfl, hq⟩ := hq
  replace hq := dPtr_some hq; obtain ⟨rfl, hq⟩ := hq
  replace hq := dE_some hq; obtain ⟨rfl, hq⟩ := hq
  replace hq := dHB_some hq; obtain ⟨y8, l7, rfl, hq⟩ := hq
  replace hq := dC_some hq; obtain ⟨y9, l10, rfl, hq⟩ := hq
  replace hq := dFn_some hq; obtain ⟨y11, rfl, hq⟩ := hq
  replace hq := dC_some hq; obtain ⟨y12, l13, rfl, hq⟩ := hq
  replace hq := dPtr_some hq; obtain ⟨rfl, hq⟩ := hq
  replace hq := dE_some hq; obtain ⟨rfl, hq⟩ := hq
  replace hq := dE_some hq; obtain ⟨rfl, hq⟩ := hq
  replace hq := dHB_some hq; obtain ⟨y15, l14, rfl, hq⟩ := hq
  replace hq := dC_some hq; obtain ⟨y16, l17, rfl, hq⟩ := hq
  replace hq := dD_some hq; obtain ⟨x1, rfl, hq⟩ := hq
  replace hq := dC_some hq; obtain ⟨y18, l19, rfl, hq⟩ := hq
  replace hq := dD_some hq; obtain ⟨x2, rfl, hq⟩ := hq
  replace hq := dE_some hq; obtain ⟨rfl, hq⟩ := hq
  replace hq := dE_some hq; obtain ⟨rfl, hq⟩ := hq
  cases hq
  obtain ⟨hc0, rfl, rfl⟩ := pickR_one h2
  exact ⟨41, (fn_eq (by kernel_rfl)).trans ((ev50 _ _ _).trans (bind_of (ok_val hc0)))⟩
noncomputable def o15 : OrcT := (50, sv50) :: o14
noncomputable def t15 : TellT := t14
noncomputable abbrev tn15 : FuncId → TAn := mkTn base o15 t15
theorem ok15 : TnOk Try.prog tn15 (mkA base) dOk := by
  have h0 : TnOk Try.prog (mkTn base o14 t14) (mkA base) dOk := ok14
  have h1 := tn_orc h0 h0 (p := (50, sv50)) wv50
  exact h1
noncomputable def L55_0_0 : Nat → (List (List Int)) → Int → Int → (List Int) → (List (List (List Int))) → Option (Int ⊕ Unit)
  | 0, _, _, _, _, _ => none
  | n + 1, x0, x1, x2, x3, x4 => (cond (decide (x2 < x1)) (cond (decide ((0 : Int) ≤ x2)) (cond (decide (x2 < (↑(List.length x0) : Int))) (cond (ok (v50 (List.getD x0 (Int.toNat x2) []) x3 x4)) (cond (val (v50 (List.getD x0 (Int.toNat x2) []) x3 x4)) (some (.inl (x2))) (L55_0_0 n (x0) (x1) (IntKind.wrap IntKind.i64 (x2 + (1 : Int))) (x3) (x4))) none) none) none) (some (.inr ())))
theorem qL55_0_0 : type_of% @L55_0_0.eq_2 := @L55_0_0.eq_2
noncomputable def xL55_0_0 (x0 : (List (List Int))) (x1 : Int) (x2 : Int) (x3 : (List Int)) (x4 : (List (List (List Int)))) : (Int ⊕ Unit) → Ex × CS := fun r => match r with | .inl a0 => (.ret, { sl := [(4, .v (.sc (.int .i64 (a0))))], lo := [], h := [.box 57 [.fn 37 0 [none] [.ptr 1 0]], .box 25 [.d 3 (.int .i64) (x3), .d 26 (.list 22 (.list 3 (.int .i64))) (x4)]], n0 := 2, w := true }) | .inr b0 => ((.exit 0), { sl := [], lo := [], h := [.box 57 [.fn 37 0 [none] [.ptr 1 0]], .box 25 [.d 3 (.int .i64) (x3), .d 26 (.list 22 (.list 3 (.int .i64))) (x4)]], n0 := 2, w := false })
theorem bL55_0_0 (k : Nat) (cN : CS → Option (Ex × CS)) (cX : Ex → CS → Option (Ex × CS)) (x0 : (List (List Int))) (x1 : Int) (x2 : Int) (x3 : (List Int)) (x4 : (List (List (List Int)))) : loopBody Try.prog (mkTn base o15 t15 55) (TM.evF Try.prog (mkTn base o15 t15) dOk (k + 40)) dOk (k + 40) (codeAt Try.prog (tn0 55) 55 0) 0 0 { sl := [(0, .v (.sc (.d 22 (.list 3 (.int .i64)) (x0)))), (1, .v (.sc (.fn 50 0 [none] [.ptr 0 0]))), (7, .v (.sc (.int .i64 (x1)))), (8, .v (.sc (.int .i64 (x2))))], lo := [], h := [.box 57 [.fn 37 0 [none] [.ptr 1 0]], .box 25 [.d 3 (.int .i64) (x3), .d 26 (.list 22 (.list 3 (.int .i64))) (x4)]], n0 := 2, w := false } cN cX = (cond (decide (x2 < x1)) (cond (decide ((0 : Int) ≤ x2)) (cond (decide (x2 < (↑(List.length x0) : Int))) (cond (ok (v50 (List.getD x0 (Int.toNat x2) []) x3 x4)) (cond (val (v50 (List.getD x0 (Int.toNat x2) []) x3 x4)) (cX .ret { sl := [(4, .v (.sc (.int .i64 (x2))))], lo := [], h := [.box 57 [.fn 37 0 [none] [.ptr 1 0]], .box 25 [.d 3 (.int .i64) (x3), .d 26 (.list 22 (.list 3 (.int .i64))) (x4)]], n0 := 2, w := true }) (cN { sl := [(0, .v (.sc (.d 22 (.list 3 (.int .i64)) (x0)))), (1, .v (.sc (.fn 50 0 [none] [.ptr 0 0]))), (7, .v (.sc (.int .i64 (x1)))), (8, .v (.sc (.int .i64 (IntKind.wrap IntKind.i64 (x2 + (1 : Int))))))], lo := [], h := [.box 57 [.fn 37 0 [none] [.ptr 1 0]], .box 25 [.d 3 (.int .i64) (x3), .d 26 (.list 22 (.list 3 (.int .i64))) (x4)]], n0 := 2, w := false })) none) none) none) (cX (.exit 0) { sl := [], lo := [], h := [.box 57 [.fn 37 0 [none] [.ptr 1 0]], .box 25 [.d 3 (.int .i64) (x3), .d 26 (.list 22 (.list 3 (.int .i64))) (x4)]], n0 := 2, w := false })) := by kernel_rfl
theorem lL55_0_0 (k m : Nat) : ∀ (n : Nat) (x0 : (List (List Int))) (x1 : Int) (x2 : Int) (x3 : (List Int)) (x4 : (List (List (List Int)))) (r : (Int ⊕ Unit)), L55_0_0 n x0 x1 x2 x3 x4 = some r → loopE Try.prog (mkTn base o15 t15 55) (TM.evF Try.prog (mkTn base o15 t15) dOk (k + 40)) dOk (k + 40) (codeAt Try.prog (tn0 55) 55 0) 0 0 (n + m) { sl := [(0, .v (.sc (.d 22 (.list 3 (.int .i64)) (x0)))), (1, .v (.sc (.fn 50 0 [none] [.ptr 0 0]))), (7, .v (.sc (.int .i64 (x1)))), (8, .v (.sc (.int .i64 (x2))))], lo := [], h := [.box 57 [.fn 37 0 [none] [.ptr 1 0]], .box 25 [.d 3 (.int .i64) (x3), .d 26 (.list 22 (.list 3 (.int .i64))) (x4)]], n0 := 2, w := false } = some (xL55_0_0 x0 x1 x2 x3 x4 r) := by
  intro n
  induction n with
  | zero => intro _ _ _ _ _ r h; cases h
  | succ n ih =>
    intro x0 x1 x2 x3 x4 r
    rw [show n + 1 + m = n + m + 1 by omega, loop_step, bL55_0_0, qL55_0_0]
    refine cond_go ?_ ?_
    · refine cond_go ?_ ?_
      · refine cond_go ?_ ?_
        · refine cond_go ?_ ?_
          · refine cond_go ?_ ?_
            · intro h; cases h; rfl
            · exact ih _ _ _ _ _ r
          · intro h; cases h
        · intro h; cases h
      · intro h; cases h
    · intro h; cases h; rfl
noncomputable def sL55_0_0 : TellS := fun S => dCS 2 S fun y1 y2 y3 => dSs 0 y1 fun y5 l4 => dD 22 (.list 3 (.int .i64)) y5 fun x0 => dSs 1 l4 fun y7 l6 => dFn 50 0 [none] y7 fun y8 => dC y8 fun y9 l10 => dPtr 0 0 y9 <| dE l10 <| dSI 7 .i64 l6 fun x1 l11 => dSI 8 .i64 l11 fun x2 l12 => dE l12 <| dE y2 <| dHB 57 y3 fun y14 l13 => dC y14 fun y15 l16 => dFn 37 0 [none] y15 fun y17 => dC y17 fun y18 l19 => dPtr 1 0 y18 <| dE l19 <| dE l16 <| dHB 25 l13 fun y21 l20 => dC y21 fun y22 l23 => dD 3 (.int .i64) y22 fun x3 => dC l23 fun y24 l25 => dD 26 (.list 22 (.list 3 (.int .i64))) y24 fun x4 => dE l25 <| dE l20 <|  some [(isL (L55_0_0 FU x0 x1 x2 x3 x4), .ret, { sl := [(4, .v (.sc (.int .i64 ((getL (L55_0_0 FU x0 x1 x2 x3 x4))))))], lo := [], h := [.box 57 [.fn 37 0 [none] [.ptr 1 0]], .box 25 [.d 3 (.int .i64) (x3), .d 26 (.list 22 (.list 3 (.int .i64))) (x4)]], n0 := 2, w := true }), (ok (getR (L55_0_0 FU x0 x1 x2 x3 x4)), (.exit 0), { sl := [], lo := [], h := [.box 57 [.fn 37 0 [none] [.ptr 1 0]], .box 25 [.d 3 (.int .i64) (x3), .d 26 (.list 22 (.list 3 (.int .i64))) (x4)]], n0 := 2, w := false })]
theorem wL55_0_0 : NewTell Try.prog dOk base o15 t15 ((55, 0), sL55_0_0) := by
  refine ⟨.loop (codeAt Try.prog (tn0 55) 55 0), 0, by kernel_rfl, ?_⟩
  intro S alts e S' h10 h2
  have h1 : sL55_0_0 S = some alts := h10
  clear h10
  unfold sL55_0_0 at h1
  replace h1 := dCS_some h1; obtain ⟨y1, y2, y3, rfl, h1⟩ := h1
  replace h1 := dSs_some h1; obtain ⟨y5, l4, rfl, h1⟩ := h1
  replace h1 := dD_some h1; obtain ⟨x0, rfl, h1⟩ := h1
  replace h1 := dSs_some h1; obtain ⟨y7, l6, rfl, h1⟩ := h1
  replace h1 := dFn_some h1; obtain ⟨y8, rfl, h1⟩ := h1
  replace h1 := dC_some h1; obtain ⟨y9, l10, rfl, h1⟩ := h1
  replace h1 := dPtr_some h1; obtain ⟨rfl, h1⟩ := h1
  replace h1 := dE_some h1; obtain ⟨rfl, h1⟩ := h1
  replace h1 := dSI_some h1; obtain ⟨x1, l11, rfl, h1⟩ := h1
  replace h1 := dSI_some h1; obtain ⟨x2, l12, rfl, h1⟩ := h1
  replace h1 := dE_some h1; obtain ⟨rfl, h1⟩ := h1
  replace h1 := dE_some h1; obtain ⟨rfl, h1⟩ := h1
  replace h1 := dHB_some h1; obtain ⟨y14, l13, rfl, h1⟩ := h1
  replace h1 := dC_some h1; obtain ⟨y15, l16, rfl, h1⟩ := h1
  replace h1 := dFn_some h1; obtain ⟨y17, rfl, h1⟩ := h1
  replace h1 := dC_some h1; obtain ⟨y18, l19, rfl, h1⟩ := h1
  replace h1 := dPtr_some h1; obtain ⟨rfl, h1⟩ := h1
  replace h1 := dE_some h1; obtain ⟨rfl, h1⟩ := h1
  replace h1 := dE_some h1; obtain ⟨rfl, h1⟩ := h1
  replace h1 := dHB_some h1; obtain ⟨y21, l20, rfl, h1⟩ := h1
  replace h1 := dC_some h1; obtain ⟨y22, l23, rfl, h1⟩ := h1
  replace h1 := dD_some h1; obtain ⟨x3, rfl, h1⟩ := h1
  replace h1 := dC_some h1; obtain ⟨y24, l25, rfl, h1⟩ := h1
  replace h1 := dD_some h1; obtain ⟨x4, rfl, h1⟩ := h1
  replace h1 := dE_some h1; obtain ⟨rfl, h1⟩ := h1
  replace h1 := dE_some h1; obtain ⟨rfl, h1⟩ := h1
  cases h1
  rcases pick_cons h2 with ⟨hc0, rfl, rfl⟩ | h2
  · exact ⟨FU + 40, (evPiece_loop rfl).trans (lL55_0_0 FU 40 FU _ _ _ _ _ _ (isL_val hc0))⟩
  obtain ⟨hc1, rfl, rfl⟩ := pick_one h2
  exact ⟨FU + 40, (evPiece_loop rfl).trans (lL55_0_0 FU 40 FU _ _ _ _ _ _ (getR_val (ok_val hc1)))⟩
noncomputable def o16 : OrcT := o15
noncomputable def t16 : TellT := ((55, 0), sL55_0_0) :: t15
noncomputable abbrev tn16 : FuncId → TAn := mkTn base o16 t16
theorem ok16 : TnOk Try.prog tn16 (mkA base) dOk := by
  have h0 : TnOk Try.prog (mkTn base o15 t15) (mkA base) dOk := ok15
  have h1 := tn_tell h0 h0 (p := ((55, 0), sL55_0_0)) wL55_0_0
  exact h1
noncomputable def v55 (x0 : (List (List Int))) (x1 : (List Int)) (x2 : (List (List (List Int)))) : Option Int := (cond (isL (L55_0_0 FU x0 (↑(List.length x0) : Int) (0 : Int) x1 x2)) (some (getL (L55_0_0 FU x0 (↑(List.length x0) : Int) (0 : Int) x1 x2))) (cond (ok (getR (L55_0_0 FU x0 (↑(List.length x0) : Int) (0 : Int) x1 x2))) (some ((-1 : Int))) none))
theorem ev55 (x0 : (List (List Int))) (x1 : (List Int)) (x2 : (List (List (List Int)))) : fnBody Try.prog (mkTn base o16 t16 55) (TM.evF Try.prog (mkTn base o16 t16) dOk 40) dOk 40 55 [.sc (.d 22 (.list 3 (.int .i64)) (x0)), .sc (.fn 50 0 [none] [.ptr 0 0])] [.box 57 [.fn 37 0 [none] [.ptr 1 0]], .box 25 [.d 3 (.int .i64) (x1), .d 26 (.list 22 (.list 3 (.int .i64))) (x2)]] = (v55 x0 x1 x2).bind fun r => some ([.sc (.int .i64 (r))], [.box 57 [.fn 37 0 [none] [.ptr 1 0]], .box 25 [.d 3 (.int .i64) (x1), .d 26 (.list 22 (.list 3 (.int .i64))) (x2)]]) := by
  refine Eq.trans (b := (cond (isL (L55_0_0 FU x0 (↑(List.length x0) : Int) (0 : Int) x1 x2)) (some ([.sc (.int .i64 (getL (L55_0_0 FU x0 (↑(List.length x0) : Int) (0 : Int) x1 x2)))], [.box 57 [.fn 37 0 [none] [.ptr 1 0]], .box 25 [.d 3 (.int .i64) (x1), .d 26 (.list 22 (.list 3 (.int .i64))) (x2)]])) (cond (ok (getR (L55_0_0 FU x0 (↑(List.length x0) : Int) (0 : Int) x1 x2))) (some ([.sc (.int .i64 ((-1 : Int)))], [.box 57 [.fn 37 0 [none] [.ptr 1 0]], .box 25 [.d 3 (.int .i64) (x1), .d 26 (.list 22 (.list 3 (.int .i64))) (x2)]])) none))) (by kernel_rfl) ?_
  unfold v55
  refine cond_bd ?_ ?_
  · rfl
  · refine cond_bd ?_ ?_
    · rfl
    · rfl
noncomputable def sv55 : OrcS := fun al H => dC al fun y1 l2 => dS y1 fun y3 => dD 22 (.list 3 (.int .i64)) y3 fun x0 => dC l2 fun y4 l5 => dS y4 fun y6 => dFn 50 0 [none] y6 fun y7 => dC y7 fun y8 l9 => dPtr 0 0 y8 <| dE l9 <| dE l5 <| dHB 57 H fun y11 l10 => dC y11 fun y12 l13 => dFn 37 0 [none] y12 fun y14 => dC y14 fun y15 l16 => dPtr 1 0 y15 <| dE l16 <| dE l13 <| dHB 25 l10 fun y18 l17 => dC y18 fun y19 l20 => dD 3 (.int .i64) y19 fun x1 => dC l20 fun y21 l22 => dD 26 (.list 22 (.list 3 (.int .i64))) y21 fun x2 => dE l22 <| dE l17 <|  some [(ok (v55 x0 x1 x2), [.sc (.int .i64 ((val (v55 x0 x1 x2))))], [.box 57 [.fn 37 0 [none] [.ptr 1 0]], .box 25 [.d 3 (.int .i64) (x1), .d 26 (.list 22 (.list 3 (.int .i64))) (x2)]])]
theorem wv55 : NewOrc Try.prog dOk base o16 t16 (55, sv55) := by
  intro al H q hq0 rs H2 h2
  have hq : sv55 al H = some q := hq0
  clear hq0
  unfold sv55 at hq
  replace hq := dC_some hq; obtain ⟨y1, l2, rfl, hq⟩ := hq
  replace hq := dS_some hq; obtain ⟨y3, rfl, hq⟩ := hq
  replace hq := dD_some hq; obtain ⟨x0, rfl, hq⟩ := hq
  replace hq := dC_some hq; obtain ⟨y4, l5, rfl, hq⟩ := hq
  replace hq := dS_some hq; obtain ⟨y6, rfl, hq⟩ := hq
  replace hq := dFn_some hq; obtain ⟨y7, rfl, hq⟩ := hq
  replace hq := dC_some hq; obtain ⟨y8, l9, rfl, hq⟩ := hq
  replace hq := dPtr_some hq; obtain ⟨rfl, hq⟩ := hq
  replace hq := dE_some hq; obtain ⟨rfl, hq⟩ := hq
  replace hq := dE_some hq; obtain ⟨rfl, hq⟩ := hq
  replace hq := dHB_some hq; obtain ⟨y11, l10, rfl, hq⟩ := hq
  replace hq := dC_some hq; obtain ⟨y12, l13, rfl, hq⟩ := hq
  replace hq := dFn_some hq; obtain ⟨y14, rfl, hq⟩ := hq
  replace hq := dC_some hq; obtain ⟨y15, l16, rfl, hq⟩ := hq
  replace hq := dPtr_some hq; obtain ⟨rfl, hq⟩ := hq
  replace hq := dE_some hq; obtain ⟨rfl, hq⟩ := hq
  replace hq := dE_some hq; obtain ⟨rfl, hq⟩ := hq
  replace hq := dHB_some hq; obtain ⟨y18, l17, rfl, hq⟩ := hq
  replace hq := dC_some hq; obtain ⟨y19, l20, rfl, hq⟩ := hq
  replace hq := dD_some hq; obtain ⟨x1, rfl, hq⟩ := hq
  replace hq := dC_some hq; obtain ⟨y21, l22, rfl, hq⟩ := hq
  replace hq := dD_some hq; obtain ⟨x2, rfl, hq⟩ := hq
  replace hq := dE_some hq; obtain ⟨rfl, hq⟩ := hq
  replace hq := dE_some hq; obtain ⟨rfl, hq⟩ := hq
  cases hq
  obtain ⟨hc0, rfl, rfl⟩ := pickR_one h2
  exact ⟨41, (fn_eq (by kernel_rfl)).trans ((ev55 _ _ _).trans (bind_of (ok_val hc0)))⟩
noncomputable def o17 : OrcT := (55, sv55) :: o16
noncomputable def t17 : TellT := t16
noncomputable abbrev tn17 : FuncId → TAn := mkTn base o17 t17
theorem ok17 : TnOk Try.prog tn17 (mkA base) dOk := by
  have h0 : TnOk Try.prog (mkTn base o16 t16) (mkA base) dOk := ok16
  have h1 := tn_orc h0 h0 (p := (55, sv55)) wv55
  exact h1
noncomputable def v49 (x0 : (List (List Int))) (x1 : (List Int)) (x2 : (List (List (List Int)))) : Option Bool := (cond (ok (v55 x0 x1 x2)) (some (decide (val (v55 x0 x1 x2) ≥ (0 : Int)))) none)
theorem ev49 (x0 : (List (List Int))) (x1 : (List Int)) (x2 : (List (List (List Int)))) : fnBody Try.prog (mkTn base o17 t17 49) (TM.evF Try.prog (mkTn base o17 t17) dOk 40) dOk 40 49 [.sc (.d 22 (.list 3 (.int .i64)) (x0)), .sc (.fn 50 0 [none] [.ptr 0 0])] [.box 57 [.fn 37 0 [none] [.ptr 1 0]], .box 25 [.d 3 (.int .i64) (x1), .d 26 (.list 22 (.list 3 (.int .i64))) (x2)]] = (v49 x0 x1 x2).bind fun r => some ([.sc (.bool (r))], [.box 57 [.fn 37 0 [none] [.ptr 1 0]], .box 25 [.d 3 (.int .i64) (x1), .d 26 (.list 22 (.list 3 (.int .i64))) (x2)]]) := by
  refine Eq.trans (b := (cond (ok (v55 x0 x1 x2)) (some ([.sc (.bool (decide (val (v55 x0 x1 x2) ≥ (0 : Int))))], [.box 57 [.fn 37 0 [none] [.ptr 1 0]], .box 25 [.d 3 (.int .i64) (x1), .d 26 (.list 22 (.list 3 (.int .i64))) (x2)]])) none)) (by kernel_rfl) ?_
  unfold v49
  refine cond_bd ?_ ?_
  · rfl
  · rfl
noncomputable def sv49 : OrcS := fun al H => dC al fun y1 l2 => dS y1 fun y3 => dD 22 (.list 3 (.int .i64)) y3 fun x0 => dC l2 fun y4 l5 => dS y4 fun y6 => dFn 50 0 [none] y6 fun y7 => dC y7 fun y8 l9 => dPtr 0 0 y8 <| dE l9 <| dE l5 <| dHB 57 H fun y11 l10 => dC y11 fun y12 l13 => dFn 37 0 [none] y12 fun y14 => dC y14 fun y15 l16 => dPtr 1 0 y15 <| dE l16 <| dE l13 <| dHB 25 l10 fun y18 l17 => dC y18 fun y19 l20 => dD 3 (.int .i64) y19 fun x1 => dC l20 fun y21 l22 => dD 26 (.list 22 (.list 3 (.int .i64))) y21 fun x2 => dE l22 <| dE l17 <|  some [(ok (v49 x0 x1 x2), [.sc (.bool ((val (v49 x0 x1 x2))))], [.box 57 [.fn 37 0 [none] [.ptr 1 0]], .box 25 [.d 3 (.int .i64) (x1), .d 26 (.list 22 (.list 3 (.int .i64))) (x2)]])]
theorem wv49 : NewOrc Try.prog dOk base o17 t17 (49, sv49) := by
  intro al H q hq0 rs H2 h2
  have hq : sv49 al H = some q := hq0
  clear hq0
  unfold sv49 at hq
  replace hq := dC_some hq; obtain ⟨y1, l2, rfl, hq⟩ := hq
  replace hq := dS_some hq; obtain ⟨y3, rfl, hq⟩ := hq
  replace hq := dD_some hq; obtain ⟨x0, rfl, hq⟩ := hq
  replace hq := dC_some hq; obtain ⟨y4, l5, rfl, hq⟩ := hq
  replace hq := dS_some hq; obtain ⟨y6, rfl, hq⟩ := hq
  replace hq := dFn_some hq; obtain ⟨y7, rfl, hq⟩ := hq
  replace hq := dC_some hq; obtain ⟨y8, l9, rfl, hq⟩ := hq
  replace hq := dPtr_some hq; obtain ⟨rfl, hq⟩ := hq
  replace hq := dE_some hq; obtain ⟨rfl, hq⟩ := hq
  replace hq := dE_some hq; obtain ⟨rfl, hq⟩ := hq
  replace hq := dHB_some hq; obtain ⟨y11, l10, rfl, hq⟩ := hq
  replace hq := dC_some hq; obtain ⟨y12, l13, rfl, hq⟩ := hq
  replace hq := dFn_some hq; obtain ⟨y14, rfl, hq⟩ := hq
  replace hq := dC_some hq; obtain ⟨y15, l16, rfl, hq⟩ := hq
  replace hq := dPtr_some hq; obtain ⟨rfl, hq⟩ := hq
  replace hq := dE_some hq; obtain ⟨rfl, hq⟩ := hq
  replace hq := dE_some hq; obtain ⟨rfl, hq⟩ := hq
  replace hq := dHB_some hq; obtain ⟨y18, l17, rfl, hq⟩ := hq
  replace hq := dC_some hq; obtain ⟨y19, l20, rfl, hq⟩ := hq
  replace hq := dD_some hq; obtain ⟨x1, rfl, hq⟩ := hq
  replace hq := dC_some hq; obtain ⟨y21, l22, rfl, hq⟩ := hq
  replace hq := dD_some hq; obtain ⟨x2, rfl, hq⟩ := hq
  replace hq := dE_some hq; obtain ⟨rfl, hq⟩ := hq
  replace hq := dE_some hq; obtain ⟨rfl, hq⟩ := hq
  cases hq
  obtain ⟨hc0, rfl, rfl⟩ := pickR_one h2
  exact ⟨41, (fn_eq (by kernel_rfl)).trans ((ev49 _ _ _).trans (bind_of (ok_val hc0)))⟩
noncomputable def o18 : OrcT := (49, sv49) :: o17
noncomputable def t18 : TellT := t17
noncomputable abbrev tn18 : FuncId → TAn := mkTn base o18 t18
theorem ok18 : TnOk Try.prog tn18 (mkA base) dOk := by
  have h0 : TnOk Try.prog (mkTn base o17 t17) (mkA base) dOk := ok17
  have h1 := tn_orc h0 h0 (p := (49, sv49)) wv49
  exact h1
noncomputable def v36 (x0 : (List (List Int))) (x1 : (List Int)) (x2 : (List (List (List Int)))) : Option Bool := (cond (ok (v49 x0 x1 x2)) (some (!val (v49 x0 x1 x2))) none)
theorem ev36 (x0 : (List (List Int))) (x1 : (List Int)) (x2 : (List (List (List Int)))) : fnBody Try.prog (mkTn base o18 t18 36) (TM.evF Try.prog (mkTn base o18 t18) dOk 40) dOk 40 36 [.sc (.d 22 (.list 3 (.int .i64)) (x0)), .sc (.fn 37 0 [none] [.ptr 0 0])] [.box 25 [.d 3 (.int .i64) (x1), .d 26 (.list 22 (.list 3 (.int .i64))) (x2)]] = (v36 x0 x1 x2).bind fun r => some ([.sc (.bool (r))], [.box 25 [.d 3 (.int .i64) (x1), .d 26 (.list 22 (.list 3 (.int .i64))) (x2)]]) := by
  refine Eq.trans (b := (cond (ok (v49 x0 x1 x2)) (some ([.sc (.bool (!val (v49 x0 x1 x2)))], [.box 25 [.d 3 (.int .i64) (x1), .d 26 (.list 22 (.list 3 (.int .i64))) (x2)]])) none)) (by kernel_rfl) ?_
  unfold v36
  refine cond_bd ?_ ?_
  · rfl
  · rfl
noncomputable def sv36 : OrcS := fun al H => dC al fun y1 l2 => dS y1 fun y3 => dD 22 (.list 3 (.int .i64)) y3 fun x0 => dC l2 fun y4 l5 => dS y4 fun y6 => dFn 37 0 [none] y6 fun y7 => dC y7 fun y8 l9 => dPtr 0 0 y8 <| dE l9 <| dE l5 <| dHB 25 H fun y11 l10 => dC y11 fun y12 l13 => dD 3 (.int .i64) y12 fun x1 => dC l13 fun y14 l15 => dD 26 (.list 22 (.list 3 (.int .i64))) y14 fun x2 => dE l15 <| dE l10 <|  some [(ok (v36 x0 x1 x2), [.sc (.bool ((val (v36 x0 x1 x2))))], [.box 25 [.d 3 (.int .i64) (x1), .d 26 (.list 22 (.list 3 (.int .i64))) (x2)]])]
theorem wv36 : NewOrc Try.prog dOk base o18 t18 (36, sv36) := by
  intro al H q hq0 rs H2 h2
  have hq : sv36 al H = some q := hq0
  clear hq0
  unfold sv36 at hq
  replace hq := dC_some hq; obtain ⟨y1, l2, rfl, hq⟩ := hq
  replace hq := dS_some hq; obtain ⟨y3, rfl, hq⟩ := hq
  replace hq := dD_some hq; obtain ⟨x0, rfl, hq⟩ := hq
  replace hq := dC_some hq; obtain ⟨y4, l5, rfl, hq⟩ := hq
  replace hq := dS_some hq; obtain ⟨y6, rfl, hq⟩ := hq
  replace hq := dFn_some hq; obtain ⟨y7, rfl, hq⟩ := hq
  replace hq := dC_some hq; obtain ⟨y8, l9, rfl, hq⟩ := hq
  replace hq := dPtr_some hq; obtain ⟨rfl, hq⟩ := hq
  replace hq := dE_some hq; obtain ⟨rfl, hq⟩ := hq
  replace hq := dE_some hq; obtain ⟨rfl, hq⟩ := hq
  replace hq := dHB_some hq; obtain ⟨y11, l10, rfl, hq⟩ := hq
  replace hq := dC_some hq; obtain ⟨y12, l13, rfl, hq⟩ := hq
  replace hq := dD_some hq; obtain ⟨x1, rfl, hq⟩ := hq
  replace hq := dC_some hq; obtain ⟨y14, l15, rfl, hq⟩ := hq
  replace hq := dD_some hq; obtain ⟨x2, rfl, hq⟩ := hq
  replace hq := dE_some hq; obtain ⟨rfl, hq⟩ := hq
  replace hq := dE_some hq; obtain ⟨rfl, hq⟩ := hq
  cases hq
  obtain ⟨hc0, rfl, rfl⟩ := pickR_one h2
  exact ⟨41, (fn_eq (by kernel_rfl)).trans ((ev36 _ _ _).trans (bind_of (ok_val hc0)))⟩
noncomputable def o19 : OrcT := (36, sv36) :: o18
noncomputable def t19 : TellT := t18
noncomputable abbrev tn19 : FuncId → TAn := mkTn base o19 t19
theorem ok19 : TnOk Try.prog tn19 (mkA base) dOk := by
  have h0 : TnOk Try.prog (mkTn base o18 t18) (mkA base) dOk := ok18
  have h1 := tn_orc h0 h0 (p := (36, sv36)) wv36
  exact h1
noncomputable def v35 (x0 : (List (List Int))) (x1 : (List Int)) (x2 : (List (List (List Int)))) : Option Bool := (cond (ok (v31 (↑(List.length x0) : Int) (1 : Int) (4 : Int))) (cond (val (v31 (↑(List.length x0) : Int) (1 : Int) (4 : Int))) (cond (ok (v36 x0 x1 x2)) (some (val (v36 x0 x1 x2))) none) (some (false))) none)
theorem ev35 (x0 : (List (List Int))) (x1 : (List Int)) (x2 : (List (List (List Int)))) : fnBody Try.prog (mkTn base o19 t19 35) (TM.evF Try.prog (mkTn base o19 t19) dOk 40) dOk 40 35 [.sc (.d 22 (.list 3 (.int .i64)) (x0)), .sc (.ptr 0 0)] [.box 25 [.d 3 (.int .i64) (x1), .d 26 (.list 22 (.list 3 (.int .i64))) (x2)]] = (v35 x0 x1 x2).bind fun r => some ([.sc (.bool (r))], [.box 25 [.d 3 (.int .i64) (x1), .d 26 (.list 22 (.list 3 (.int .i64))) (x2)]]) := by
  refine Eq.trans (b := (cond (ok (v31 (↑(List.length x0) : Int) (1 : Int) (4 : Int))) (cond (val (v31 (↑(List.length x0) : Int) (1 : Int) (4 : Int))) (cond (ok (v36 x0 x1 x2)) (some ([.sc (.bool (val (v36 x0 x1 x2)))], [.box 25 [.d 3 (.int .i64) (x1), .d 26 (.list 22 (.list 3 (.int .i64))) (x2)]])) none) (some ([.sc (.bool (false))], [.box 25 [.d 3 (.int .i64) (x1), .d 26 (.list 22 (.list 3 (.int .i64))) (x2)]]))) none)) (by kernel_rfl) ?_
  unfold v35
  refine cond_bd ?_ ?_
  · refine cond_bd ?_ ?_
    · refine cond_bd ?_ ?_
      · rfl
      · rfl
    · rfl
  · rfl
noncomputable def sv35 : OrcS := fun al H => dC al fun y1 l2 => dS y1 fun y3 => dD 22 (.list 3 (.int .i64)) y3 fun x0 => dC l2 fun y4 l5 => dS y4 fun y6 => dPtr 0 0 y6 <| dE l5 <| dHB 25 H fun y8 l7 => dC y8 fun y9 l10 => dD 3 (.int .i64) y9 fun x1 => dC l10 fun y11 l12 => dD 26 (.list 22 (.list 3 (.int .i64))) y11 fun x2 => dE l12 <| dE l7 <|  some [(ok (v35 x0 x1 x2), [.sc (.bool ((val (v35 x0 x1 x2))))], [.box 25 [.d 3 (.int .i64) (x1), .d 26 (.list 22 (.list 3 (.int .i64))) (x2)]])]
theorem wv35 : NewOrc Try.prog dOk base o19 t19 (35, sv35) := by
  intro al H q hq0 rs H2 h2
  have hq : sv35 al H = some q := hq0
  clear hq0
  unfold sv35 at hq
  replace hq := dC_some hq; obtain ⟨y1, l2, rfl, hq⟩ := hq
  replace hq := dS_some hq; obtain ⟨y3, rfl, hq⟩ := hq
  replace hq := dD_some hq; obtain ⟨x0, rfl, hq⟩ := hq
  replace hq := dC_some hq; obtain ⟨y4, l5, rfl, hq⟩ := hq
  replace hq := dS_some hq; obtain ⟨y6, rfl, hq⟩ := hq
  replace hq := dPtr_some hq; obtain ⟨rfl, hq⟩ := hq
  replace hq := dE_some hq; obtain ⟨rfl, hq⟩ := hq
  replace hq := dHB_some hq; obtain ⟨y8, l7, rfl, hq⟩ := hq
  replace hq := dC_some hq; obtain ⟨y9, l10, rfl, hq⟩ := hq
  replace hq := dD_some hq; obtain ⟨x1, rfl, hq⟩ := hq
  replace hq := dC_some hq; obtain ⟨y11, l12, rfl, hq⟩ := hq
  replace hq := dD_some hq; obtain ⟨x2, rfl, hq⟩ := hq
  replace hq := dE_some hq; obtain ⟨rfl, hq⟩ := hq
  replace hq := dE_some hq; obtain ⟨rfl, hq⟩ := hq
  cases hq
  obtain ⟨hc0, rfl, rfl⟩ := pickR_one h2
  exact ⟨41, (fn_eq (by kernel_rfl)).trans ((ev35 _ _ _).trans (bind_of (ok_val hc0)))⟩
noncomputable def o20 : OrcT := (35, sv35) :: o19
noncomputable def t20 : TellT := t19
noncomputable abbrev tn20 : FuncId → TAn := mkTn base o20 t20
theorem ok20 : TnOk Try.prog tn20 (mkA base) dOk := by
  have h0 : TnOk Try.prog (mkTn base o19 t19) (mkA base) dOk := ok19
  have h1 := tn_orc h0 h0 (p := (35, sv35)) wv35
  exact h1
noncomputable def v48 (x0 : (List (List Int))) (x1 : (List Int)) (x2 : (List (List (List Int)))) : Option Bool := (cond (ok (v35 x0 x1 x2)) (some (!val (v35 x0 x1 x2))) none)
theorem ev48 (x0 : (List (List Int))) (x1 : (List Int)) (x2 : (List (List (List Int)))) : fnBody Try.prog (mkTn base o20 t20 48) (TM.evF Try.prog (mkTn base o20 t20) dOk 40) dOk 40 48 [.sc (.d 22 (.list 3 (.int .i64)) (x0)), .sc (.ptr 0 0)] [.box 58 [.fn 35 0 [none] [.ptr 1 0]], .box 25 [.d 3 (.int .i64) (x1), .d 26 (.list 22 (.list 3 (.int .i64))) (x2)]] = (v48 x0 x1 x2).bind fun r => some ([.sc (.bool (r))], [.box 58 [.fn 35 0 [none] [.ptr 1 0]], .box 25 [.d 3 (.int .i64) (x1), .d 26 (.list 22 (.list 3 (.int .i64))) (x2)]]) := by
  refine Eq.trans (b := (cond (ok (v35 x0 x1 x2)) (some ([.sc (.bool (!val (v35 x0 x1 x2)))], [.box 58 [.fn 35 0 [none] [.ptr 1 0]], .box 25 [.d 3 (.int .i64) (x1), .d 26 (.list 22 (.list 3 (.int .i64))) (x2)]])) none)) (by kernel_rfl) ?_
  unfold v48
  refine cond_bd ?_ ?_
  · rfl
  · rfl
noncomputable def sv48 : OrcS := fun al H => dC al fun y1 l2 => dS y1 fun y3 => dD 22 (.list 3 (.int .i64)) y3 fun x0 => dC l2 fun y4 l5 => dS y4 fun y6 => dPtr 0 0 y6 <| dE l5 <| dHB 58 H fun y8 l7 => dC y8 fun y9 l10 => dFn 35 0 [none] y9 fun y11 => dC y11 fun y12 l13 => dPtr 1 0 y12 <| dE l13 <| dE l10 <| dHB 25 l7 fun y15 l14 => dC y15 fun y16 l17 => dD 3 (.int .i64) y16 fun x1 => dC l17 fun y18 l19 => dD 26 (.list 22 (.list 3 (.int .i64))) y18 fun x2 => dE l19 <| dE l14 <|  some [(ok (v48 x0 x1 x2), [.sc (.bool ((val (v48 x0 x1 x2))))], [.box 58 [.fn 35 0 [none] [.ptr 1 0]], .box 25 [.d 3 (.int .i64) (x1), .d 26 (.list 22 (.list 3 (.int .i64))) (x2)]])]
theorem wv48 : NewOrc Try.prog dOk base o20 t20 (48, sv48) := by
  intro al H q hq0 rs H2 h2
  have hq : sv48 al H = some q := hq0
  clear hq0
  unfold sv48 at hq
  replace hq := dC_some hq; obtain ⟨y1, l2, rfl, hq⟩ := hq
  replace hq := dS_some hq; obtain ⟨y3, rfl, hq⟩ := hq
  replace hq := dD_some hq; obtain ⟨x0, rfl, hq⟩ := hq
  replace hq := dC_some hq; obtain ⟨y4, l5, rfl, hq⟩ := hq
  replace hq := dS_some hq; obtain ⟨y6, rfl, hq⟩ := hq
  replace hq := dPtr_some hq; obtain ⟨rfl, hq⟩ := hq
  replace hq := dE_some hq; obtain ⟨rfl, hq⟩ := hq
  replace hq := dHB_some hq; obtain ⟨y8, l7, rfl, hq⟩ := hq
  replace hq := dC_some hq; obtain ⟨y9, l10, rfl, hq⟩ := hq
  replace hq := dFn_some hq; obtain ⟨y11, rfl, hq⟩ := hq
  replace hq := dC_some hq; obtain ⟨y12, l13, rfl, hq⟩ := hq
  replace hq := dPtr_some hq; obtain ⟨rfl, hq⟩ := hq
  replace hq := dE_some hq; obtain ⟨rfl, hq⟩ := hq
  replace hq := dE_some hq; obtain ⟨rfl, hq⟩ := hq
  replace hq := dHB_some hq; obtain ⟨y15, l14, rfl, hq⟩ := hq
  replace hq := dC_some hq; obtain ⟨y16, l17, rfl, hq⟩ := hq
  replace hq := dD_some hq; obtain ⟨x1, rfl, hq⟩ := hq
  replace hq := dC_some hq; obtain ⟨y18, l19, rfl, hq⟩ := hq
  replace hq := dD_some hq; obtain ⟨x2, rfl, hq⟩ := hq
  replace hq := dE_some hq; obtain ⟨rfl, hq⟩ := hq
  replace hq := dE_some hq; obtain ⟨rfl, hq⟩ := hq
  cases hq
  obtain ⟨hc0, rfl, rfl⟩ := pickR_one h2
  exact ⟨41, (fn_eq (by kernel_rfl)).trans ((ev48 _ _ _).trans (bind_of (ok_val hc0)))⟩
noncomputable def o21 : OrcT := (48, sv48) :: o20
noncomputable def t21 : TellT := t20
noncomputable abbrev tn21 : FuncId → TAn := mkTn base o21 t21
theorem ok21 : TnOk Try.prog tn21 (mkA base) dOk := by
  have h0 : TnOk Try.prog (mkTn base o20 t20) (mkA base) dOk := ok20
  have h1 := tn_orc h0 h0 (p := (48, sv48)) wv48
  exact h1
noncomputable def L54_0_0 : Nat → (List (List (List Int))) → Int → Int → (List Int) → (List (List (List Int))) → Option (Int ⊕ Unit)
  | 0, _, _, _, _, _ => none
  | n + 1, x0, x1, x2, x3, x4 => (cond (decide (x2 < x1)) (cond (decide ((0 : Int) ≤ x2)) (cond (decide (x2 < (↑(List.length x0) : Int))) (cond (ok (v48 (List.getD x0 (Int.toNat x2) []) x3 x4)) (cond (val (v48 (List.getD x0 (Int.toNat x2) []) x3 x4)) (some (.inl (x2))) (L54_0_0 n (x0) (x1) (IntKind.wrap IntKind.i64 (x2 + (1 : Int))) (x3) (x4))) none) none) none) (some (.inr ())))
theorem qL54_0_0 : type_of% @L54_0_0.eq_2 := @L54_0_0.eq_2
noncomputable def xL54_0_0 (x0 : (List (List (List Int)))) (x1 : Int) (x2 : Int) (x3 : (List Int)) (x4 : (List (List (List Int)))) : (Int ⊕ Unit) → Ex × CS := fun r => match r with | .inl a0 => (.ret, { sl := [(4, .v (.sc (.int .i64 (a0))))], lo := [], h := [.box 58 [.fn 35 0 [none] [.ptr 1 0]], .box 25 [.d 3 (.int .i64) (x3), .d 26 (.list 22 (.list 3 (.int .i64))) (x4)]], n0 := 2, w := true }) | .inr b0 => ((.exit 0), { sl := [], lo := [], h := [.box 58 [.fn 35 0 [none] [.ptr 1 0]], .box 25 [.d 3 (.int .i64) (x3), .d 26 (.list 22 (.list 3 (.int .i64))) (x4)]], n0 := 2, w := false })
theorem bL54_0_0 (k : Nat) (cN : CS → Option (Ex × CS)) (cX : Ex → CS → Option (Ex × CS)) (x0 : (List (List (List Int)))) (x1 : Int) (x2 : Int) (x3 : (List Int)) (x4 : (List (List (List Int)))) : loopBody Try.prog (mkTn base o21 t21 54) (TM.evF Try.prog (mkTn base o21 t21) dOk (k + 40)) dOk (k + 40) (codeAt Try.prog (tn0 54) 54 0) 0 0 { sl := [(0, .v (.sc (.d 26 (.list 22 (.list 3 (.int .i64))) (x0)))), (1, .v (.sc (.fn 48 0 [none] [.ptr 0 0]))), (7, .v (.sc (.int .i64 (x1)))), (8, .v (.sc (.int .i64 (x2))))], lo := [], h := [.box 58 [.fn 35 0 [none] [.ptr 1 0]], .box 25 [.d 3 (.int .i64) (x3), .d 26 (.list 22 (.list 3 (.int .i64))) (x4)]], n0 := 2, w := false } cN cX = (cond (decide (x2 < x1)) (cond (decide ((0 : Int) ≤ x2)) (cond (decide (x2 < (↑(List.length x0) : Int))) (cond (ok (v48 (List.getD x0 (Int.toNat x2) []) x3 x4)) (cond (val (v48 (List.getD x0 (Int.toNat x2) []) x3 x4)) (cX .ret { sl := [(4, .v (.sc (.int .i64 (x2))))], lo := [], h := [.box 58 [.fn 35 0 [none] [.ptr 1 0]], .box 25 [.d 3 (.int .i64) (x3), .d 26 (.list 22 (.list 3 (.int .i64))) (x4)]], n0 := 2, w := true }) (cN { sl := [(0, .v (.sc (.d 26 (.list 22 (.list 3 (.int .i64))) (x0)))), (1, .v (.sc (.fn 48 0 [none] [.ptr 0 0]))), (7, .v (.sc (.int .i64 (x1)))), (8, .v (.sc (.int .i64 (IntKind.wrap IntKind.i64 (x2 + (1 : Int))))))], lo := [], h := [.box 58 [.fn 35 0 [none] [.ptr 1 0]], .box 25 [.d 3 (.int .i64) (x3), .d 26 (.list 22 (.list 3 (.int .i64))) (x4)]], n0 := 2, w := false })) none) none) none) (cX (.exit 0) { sl := [], lo := [], h := [.box 58 [.fn 35 0 [none] [.ptr 1 0]], .box 25 [.d 3 (.int .i64) (x3), .d 26 (.list 22 (.list 3 (.int .i64))) (x4)]], n0 := 2, w := false })) := by kernel_rfl
theorem lL54_0_0 (k m : Nat) : ∀ (n : Nat) (x0 : (List (List (List Int)))) (x1 : Int) (x2 : Int) (x3 : (List Int)) (x4 : (List (List (List Int)))) (r : (Int ⊕ Unit)), L54_0_0 n x0 x1 x2 x3 x4 = some r → loopE Try.prog (mkTn base o21 t21 54) (TM.evF Try.prog (mkTn base o21 t21) dOk (k + 40)) dOk (k + 40) (codeAt Try.prog (tn0 54) 54 0) 0 0 (n + m) { sl := [(0, .v (.sc (.d 26 (.list 22 (.list 3 (.int .i64))) (x0)))), (1, .v (.sc (.fn 48 0 [none] [.ptr 0 0]))), (7, .v (.sc (.int .i64 (x1)))), (8, .v (.sc (.int .i64 (x2))))], lo := [], h := [.box 58 [.fn 35 0 [none] [.ptr 1 0]], .box 25 [.d 3 (.int .i64) (x3), .d 26 (.list 22 (.list 3 (.int .i64))) (x4)]], n0 := 2, w := false } = some (xL54_0_0 x0 x1 x2 x3 x4 r) := by
  intro n
  induction n with
  | zero => intro _ _ _ _ _ r h; cases h
  | succ n ih =>
    intro x0 x1 x2 x3 x4 r
    rw [show n + 1 + m = n + m + 1 by omega, loop_step, bL54_0_0, qL54_0_0]
    refine cond_go ?_ ?_
    · refine cond_go ?_ ?_
      · refine cond_go ?_ ?_
        · refine cond_go ?_ ?_
          · refine cond_go ?_ ?_
            · intro h; cases h; rfl
            · exact ih _ _ _ _ _ r
          · intro h; cases h
        · intro h; cases h
      · intro h; cases h
    · intro h; cases h; rfl
noncomputable def sL54_0_0 : TellS := fun S => dCS 2 S fun y1 y2 y3 => dSs 0 y1 fun y5 l4 => dD 26 (.list 22 (.list 3 (.int .i64))) y5 fun x0 => dSs 1 l4 fun y7 l6 => dFn 48 0 [none] y7 fun y8 => dC y8 fun y9 l10 => dPtr 0 0 y9 <| dE l10 <| dSI 7 .i64 l6 fun x1 l11 => dSI 8 .i64 l11 fun x2 l12 => dE l12 <| dE y2 <| dHB 58 y3 fun y14 l13 => dC y14 fun y15 l16 => dFn 35 0 [none] y15 fun y17 => dC y17 fun y18 l19 => dPtr 1 0 y18 <| dE l19 <| dE l16 <| dHB 25 l13 fun y21 l20 => dC y21 fun y22 l23 => dD 3 (.int .i64) y22 fun x3 => dC l23 fun y24 l25 => dD 26 (.list 22 (.list 3 (.int .i64))) y24 fun x4 => dE l25 <| dE l20 <|  some [(isL (L54_0_0 FU x0 x1 x2 x3 x4), .ret, { sl := [(4, .v (.sc (.int .i64 ((getL (L54_0_0 FU x0 x1 x2 x3 x4))))))], lo := [], h := [.box 58 [.fn 35 0 [none] [.ptr 1 0]], .box 25 [.d 3 (.int .i64) (x3), .d 26 (.list 22 (.list 3 (.int .i64))) (x4)]], n0 := 2, w := true }), (ok (getR (L54_0_0 FU x0 x1 x2 x3 x4)), (.exit 0), { sl := [], lo := [], h := [.box 58 [.fn 35 0 [none] [.ptr 1 0]], .box 25 [.d 3 (.int .i64) (x3), .d 26 (.list 22 (.list 3 (.int .i64))) (x4)]], n0 := 2, w := false })]
theorem wL54_0_0 : NewTell Try.prog dOk base o21 t21 ((54, 0), sL54_0_0) := by
  refine ⟨.loop (codeAt Try.prog (tn0 54) 54 0), 0, by kernel_rfl, ?_⟩
  intro S alts e S' h10 h2
  have h1 : sL54_0_0 S = some alts := h10
  clear h10
  unfold sL54_0_0 at h1
  replace h1 := dCS_some h1; obtain ⟨y1, y2, y3, rfl, h1⟩ := h1
  replace h1 := dSs_some h1; obtain ⟨y5, l4, rfl, h1⟩ := h1
  replace h1 := dD_some h1; obtain ⟨x0, rfl, h1⟩ := h1
  replace h1 := dSs_some h1; obtain ⟨y7, l6, rfl, h1⟩ := h1
  replace h1 := dFn_some h1; obtain ⟨y8, rfl, h1⟩ := h1
  replace h1 := dC_some h1; obtain ⟨y9, l10, rfl, h1⟩ := h1
  replace h1 := dPtr_some h1; obtain ⟨rfl, h1⟩ := h1
  replace h1 := dE_some h1; obtain ⟨rfl, h1⟩ := h1
  replace h1 := dSI_some h1; obtain ⟨x1, l11, rfl, h1⟩ := h1
  replace h1 := dSI_some h1; obtain ⟨x2, l12, rfl, h1⟩ := h1
  replace h1 := dE_some h1; obtain ⟨rfl, h1⟩ := h1
  replace h1 := dE_some h1; obtain ⟨rfl, h1⟩ := h1
  replace h1 := dHB_some h1; obtain ⟨y14, l13, rfl, h1⟩ := h1
  replace h1 := dC_some h1; obtain ⟨y15, l16, rfl, h1⟩ := h1
  replace h1 := dFn_some h1; obtain ⟨y17, rfl, h1⟩ := h1
  replace h1 := dC_some h1; obtain ⟨y18, l19, rfl, h1⟩ := h1
  replace h1 := dPtr_some h1; obtain ⟨rfl, h1⟩ := h1
  replace h1 := dE_some h1; obtain ⟨rfl, h1⟩ := h1
  replace h1 := dE_some h1; obtain ⟨rfl, h1⟩ := h1
  replace h1 := dHB_some h1; obtain ⟨y21, l20, rfl, h1⟩ := h1
  replace h1 := dC_some h1; obtain ⟨y22, l23, rfl, h1⟩ := h1
  replace h1 := dD_some h1; obtain ⟨x3, rfl, h1⟩ := h1
  replace h1 := dC_some h1; obtain ⟨y24, l25, rfl, h1⟩ := h1
  replace h1 := dD_some h1; obtain ⟨x4, rfl, h1⟩ := h1
  replace h1 := dE_some h1; obtain ⟨rfl, h1⟩ := h1
  replace h1 := dE_some h1; obtain ⟨rfl, h1⟩ := h1
  cases h1
  rcases pick_cons h2 with ⟨hc0, rfl, rfl⟩ | h2
  · exact ⟨FU + 40, (evPiece_loop rfl).trans (lL54_0_0 FU 40 FU _ _ _ _ _ _ (isL_val hc0))⟩
  obtain ⟨hc1, rfl, rfl⟩ := pick_one h2
  exact ⟨FU + 40, (evPiece_loop rfl).trans (lL54_0_0 FU 40 FU _ _ _ _ _ _ (getR_val (ok_val hc1)))⟩
noncomputable def o22 : OrcT := o21
noncomputable def t22 : TellT := ((54, 0), sL54_0_0) :: t21
noncomputable abbrev tn22 : FuncId → TAn := mkTn base o22 t22
theorem ok22 : TnOk Try.prog tn22 (mkA base) dOk := by
  have h0 : TnOk Try.prog (mkTn base o21 t21) (mkA base) dOk := ok21
  have h1 := tn_tell h0 h0 (p := ((54, 0), sL54_0_0)) wL54_0_0
  exact h1
noncomputable def v54 (x0 : (List (List (List Int)))) (x1 : (List Int)) (x2 : (List (List (List Int)))) : Option Int := (cond (isL (L54_0_0 FU x0 (↑(List.length x0) : Int) (0 : Int) x1 x2)) (some (getL (L54_0_0 FU x0 (↑(List.length x0) : Int) (0 : Int) x1 x2))) (cond (ok (getR (L54_0_0 FU x0 (↑(List.length x0) : Int) (0 : Int) x1 x2))) (some ((-1 : Int))) none))
theorem ev54 (x0 : (List (List (List Int)))) (x1 : (List Int)) (x2 : (List (List (List Int)))) : fnBody Try.prog (mkTn base o22 t22 54) (TM.evF Try.prog (mkTn base o22 t22) dOk 40) dOk 40 54 [.sc (.d 26 (.list 22 (.list 3 (.int .i64))) (x0)), .sc (.fn 48 0 [none] [.ptr 0 0])] [.box 58 [.fn 35 0 [none] [.ptr 1 0]], .box 25 [.d 3 (.int .i64) (x1), .d 26 (.list 22 (.list 3 (.int .i64))) (x2)]] = (v54 x0 x1 x2).bind fun r => some ([.sc (.int .i64 (r))], [.box 58 [.fn 35 0 [none] [.ptr 1 0]], .box 25 [.d 3 (.int .i64) (x1), .d 26 (.list 22 (.list 3 (.int .i64))) (x2)]]) := by
  refine Eq.trans (b := (cond (isL (L54_0_0 FU x0 (↑(List.length x0) : Int) (0 : Int) x1 x2)) (some ([.sc (.int .i64 (getL (L54_0_0 FU x0 (↑(List.length x0) : Int) (0 : Int) x1 x2)))], [.box 58 [.fn 35 0 [none] [.ptr 1 0]], .box 25 [.d 3 (.int .i64) (x1), .d 26 (.list 22 (.list 3 (.int .i64))) (x2)]])) (cond (ok (getR (L54_0_0 FU x0 (↑(List.length x0) : Int) (0 : Int) x1 x2))) (some ([.sc (.int .i64 ((-1 : Int)))], [.box 58 [.fn 35 0 [none] [.ptr 1 0]], .box 25 [.d 3 (.int .i64) (x1), .d 26 (.list 22 (.list 3 (.int .i64))) (x2)]])) none))) (by kernel_rfl) ?_
  unfold v54
  refine cond_bd ?_ ?_
  · rfl
  · refine cond_bd ?_ ?_
    · rfl
    · rfl
noncomputable def sv54 : OrcS := fun al H => dC al fun y1 l2 => dS y1 fun y3 => dD 26 (.list 22 (.list 3 (.int .i64))) y3 fun x0 => dC l2 fun y4 l5 => dS y4 fun y6 => dFn 48 0 [none] y6 fun y7 => dC y7 fun y8 l9 => dPtr 0 0 y8 <| dE l9 <| dE l5 <| dHB 58 H fun y11 l10 => dC y11 fun y12 l13 => dFn 35 0 [none] y12 fun y14 => dC y14 fun y15 l16 => dPtr 1 0 y15 <| dE l16 <| dE l13 <| dHB 25 l10 fun y18 l17 => dC y18 fun y19 l20 => dD 3 (.int .i64) y19 fun x1 => dC l20 fun y21 l22 => dD 26 (.list 22 (.list 3 (.int .i64))) y21 fun x2 => dE l22 <| dE l17 <|  some [(ok (v54 x0 x1 x2), [.sc (.int .i64 ((val (v54 x0 x1 x2))))], [.box 58 [.fn 35 0 [none] [.ptr 1 0]], .box 25 [.d 3 (.int .i64) (x1), .d 26 (.list 22 (.list 3 (.int .i64))) (x2)]])]
theorem wv54 : NewOrc Try.prog dOk base o22 t22 (54, sv54) := by
  intro al H q hq0 rs H2 h2
  have hq : sv54 al H = some q := hq0
  clear hq0
  unfold sv54 at hq
  replace hq := dC_some hq; obtain ⟨y1, l2, rfl, hq⟩ := hq
  replace hq := dS_some hq; obtain ⟨y3, rfl, hq⟩ := hq
  replace hq := dD_some hq; obtain ⟨x0, rfl, hq⟩ := hq
  replace hq := dC_some hq; obtain ⟨y4, l5, rfl, hq⟩ := hq
  replace hq := dS_some hq; obtain ⟨y6, rfl, hq⟩ := hq
  replace hq := dFn_some hq; obtain ⟨y7, rfl, hq⟩ := hq
  replace hq := dC_some hq; obtain ⟨y8, l9, rfl, hq⟩ := hq
  replace hq := dPtr_some hq; obtain ⟨rfl, hq⟩ := hq
  replace hq := dE_some hq; obtain ⟨rfl, hq⟩ := hq
  replace hq := dE_some hq; obtain ⟨rfl, hq⟩ := hq
  replace hq := dHB_some hq; obtain ⟨y11, l10, rfl, hq⟩ := hq
  replace hq := dC_some hq; obtain ⟨y12, l13, rfl, hq⟩ := hq
  replace hq := dFn_some hq; obtain ⟨y14, rfl, hq⟩ := hq
  replace hq := dC_some hq; obtain ⟨y15, l16, rfl, hq⟩ := hq
  replace hq := dPtr_some hq; obtain ⟨rfl, hq⟩ := hq
  replace hq := dE_some hq; obtain ⟨rfl, hq⟩ := hq
  replace hq := dE_some hq; obtain ⟨rfl, hq⟩ := hq
  replace hq := dHB_some hq; obtain ⟨y18, l17, rfl, hq⟩ := hq
  replace hq := dC_some hq; obtain ⟨y19, l20, rfl, hq⟩ := hq
  replace hq := dD_some hq; obtain ⟨x1, rfl, hq⟩ := hq
  replace hq := dC_some hq; obtain ⟨y21, l22, rfl, hq⟩ := hq
  replace hq := dD_some hq; obtain ⟨x2, rfl, hq⟩ := hq
  replace hq := dE_some hq; obtain ⟨rfl, hq⟩ := hq
  replace hq := dE_some hq; obtain ⟨rfl, hq⟩ := hq
  cases hq
  obtain ⟨hc0, rfl, rfl⟩ := pickR_one h2
  exact ⟨41, (fn_eq (by kernel_rfl)).trans ((ev54 _ _ _).trans (bind_of (ok_val hc0)))⟩
noncomputable def o23 : OrcT := (54, sv54) :: o22
noncomputable def t23 : TellT := t22
noncomputable abbrev tn23 : FuncId → TAn := mkTn base o23 t23
theorem ok23 : TnOk Try.prog tn23 (mkA base) dOk := by
  have h0 : TnOk Try.prog (mkTn base o22 t22) (mkA base) dOk := ok22
  have h1 := tn_orc h0 h0 (p := (54, sv54)) wv54
  exact h1
noncomputable def v47 (x0 : (List (List (List Int)))) (x1 : (List Int)) (x2 : (List (List (List Int)))) : Option Bool := (cond (ok (v54 x0 x1 x2)) (some (decide (val (v54 x0 x1 x2) ≥ (0 : Int)))) none)
theorem ev47 (x0 : (List (List (List Int)))) (x1 : (List Int)) (x2 : (List (List (List Int)))) : fnBody Try.prog (mkTn base o23 t23 47) (TM.evF Try.prog (mkTn base o23 t23) dOk 40) dOk 40 47 [.sc (.d 26 (.list 22 (.list 3 (.int .i64))) (x0)), .sc (.fn 48 0 [none] [.ptr 0 0])] [.box 58 [.fn 35 0 [none] [.ptr 1 0]], .box 25 [.d 3 (.int .i64) (x1), .d 26 (.list 22 (.list 3 (.int .i64))) (x2)]] = (v47 x0 x1 x2).bind fun r => some ([.sc (.bool (r))], [.box 58 [.fn 35 0 [none] [.ptr 1 0]], .box 25 [.d 3 (.int .i64) (x1), .d 26 (.list 22 (.list 3 (.int .i64))) (x2)]]) := by
  refine Eq.trans (b := (cond (ok (v54 x0 x1 x2)) (some ([.sc (.bool (decide (val (v54 x0 x1 x2) ≥ (0 : Int))))], [.box 58 [.fn 35 0 [none] [.ptr 1 0]], .box 25 [.d 3 (.int .i64) (x1), .d 26 (.list 22 (.list 3 (.int .i64))) (x2)]])) none)) (by kernel_rfl) ?_
  unfold v47
  refine cond_bd ?_ ?_
  · rfl
  · rfl
noncomputable def sv47 : OrcS := fun al H => dC al fun y1 l2 => dS y1 fun y3 => dD 26 (.list 22 (.list 3 (.int .i64))) y3 fun x0 => dC l2 fun y4 l5 => dS y4 fun y6 => dFn 48 0 [none] y6 fun y7 => dC y7 fun y8 l9 => dPtr 0 0 y8 <| dE l9 <| dE l5 <| dHB 58 H fun y11 l10 => dC y11 fun y12 l13 => dFn 35 0 [none] y12 fun y14 => dC y14 fun y15 l16 => dPtr 1 0 y15 <| dE l16 <| dE l13 <| dHB 25 l10 fun y18 l17 => dC y18 fun y19 l20 => dD 3 (.int .i64) y19 fun x1 => dC l20 fun y21 l22 => dD 26 (.list 22 (.list 3 (.int .i64))) y21 fun x2 => dE l22 <| dE l17 <|  some [(ok (v47 x0 x1 x2), [.sc (.bool ((val (v47 x0 x1 x2))))], [.box 58 [.fn 35 0 [none] [.ptr 1 0]], .box 25 [.d 3 (.int .i64) (x1), .d 26 (.list 22 (.list 3 (.int .i64))) (x2)]])]
theorem wv47 : NewOrc Try.prog dOk base o23 t23 (47, sv47) := by
  intro al H q hq0 rs H2 h2
  have hq : sv47 al H = some q := hq0
  clear hq0
  unfold sv47 at hq
  replace hq := dC_some hq; obtain ⟨y1, l2, rfl, hq⟩ := hq
  replace hq := dS_some hq; obtain ⟨y3, rfl, hq⟩ := hq
  replace hq := dD_some hq; obtain ⟨x0, rfl, hq⟩ := hq
  replace hq := dC_some hq; obtain ⟨y4, l5, rfl, hq⟩ := hq
  replace hq := dS_some hq; obtain ⟨y6, rfl, hq⟩ := hq
  replace hq := dFn_some hq; obtain ⟨y7, rfl, hq⟩ := hq
  replace hq := dC_some hq; obtain ⟨y8, l9, rfl, hq⟩ := hq
  replace hq := dPtr_some hq; obtain ⟨rfl, hq⟩ := hq
  replace hq := dE_some hq; obtain ⟨rfl, hq⟩ := hq
  replace hq := dE_some hq; obtain ⟨rfl, hq⟩ := hq
  replace hq := dHB_some hq; obtain ⟨y11, l10, rfl, hq⟩ := hq
  replace hq := dC_some hq; obtain ⟨y12, l13, rfl, hq⟩ := hq
  replace hq := dFn_some hq; obtain ⟨y14, rfl, hq⟩ := hq
  replace hq := dC_some hq; obtain ⟨y15, l16, rfl, hq⟩ := hq
  replace hq := dPtr_some hq; obtain ⟨rfl, hq⟩ := hq
  replace hq := dE_some hq; obtain ⟨rfl, hq⟩ := hq
  replace hq := dE_some hq; obtain ⟨rfl, hq⟩ := hq
  replace hq := dHB_some hq; obtain ⟨y18, l17, rfl, hq⟩ := hq
  replace hq := dC_some hq; obtain ⟨y19, l20, rfl, hq⟩ := hq
  replace hq := dD_some hq; obtain ⟨x1, rfl, hq⟩ := hq
  replace hq := dC_some hq; obtain ⟨y21, l22, rfl, hq⟩ := hq
  replace hq := dD_some hq; obtain ⟨x2, rfl, hq⟩ := hq
  replace hq := dE_some hq; obtain ⟨rfl, hq⟩ := hq
  replace hq := dE_some hq; obtain ⟨rfl, hq⟩ := hq
  cases hq
  obtain ⟨hc0, rfl, rfl⟩ := pickR_one h2
  exact ⟨41, (fn_eq (by kernel_rfl)).trans ((ev47 _ _ _).trans (bind_of (ok_val hc0)))⟩
noncomputable def o24 : OrcT := (47, sv47) :: o23
noncomputable def t24 : TellT := t23
noncomputable abbrev tn24 : FuncId → TAn := mkTn base o24 t24
theorem ok24 : TnOk Try.prog tn24 (mkA base) dOk := by
  have h0 : TnOk Try.prog (mkTn base o23 t23) (mkA base) dOk := ok23
  have h1 := tn_orc h0 h0 (p := (47, sv47)) wv47
  exact h1
noncomputable def v34 (x0 : (List (List (List Int)))) (x1 : (List Int)) (x2 : (List (List (List Int)))) : Option Bool := (cond (ok (v47 x0 x1 x2)) (some (!val (v47 x0 x1 x2))) none)
theorem ev34 (x0 : (List (List (List Int)))) (x1 : (List Int)) (x2 : (List (List (List Int)))) : fnBody Try.prog (mkTn base o24 t24 34) (TM.evF Try.prog (mkTn base o24 t24) dOk 40) dOk 40 34 [.sc (.d 26 (.list 22 (.list 3 (.int .i64))) (x0)), .sc (.fn 35 0 [none] [.ptr 0 0])] [.box 25 [.d 3 (.int .i64) (x1), .d 26 (.list 22 (.list 3 (.int .i64))) (x2)]] = (v34 x0 x1 x2).bind fun r => some ([.sc (.bool (r))], [.box 25 [.d 3 (.int .i64) (x1), .d 26 (.list 22 (.list 3 (.int .i64))) (x2)]]) := by
  refine Eq.trans (b := (cond (ok (v47 x0 x1 x2)) (some ([.sc (.bool (!val (v47 x0 x1 x2)))], [.box 25 [.d 3 (.int .i64) (x1), .d 26 (.list 22 (.list 3 (.int .i64))) (x2)]])) none)) (by kernel_rfl) ?_
  unfold v34
  refine cond_bd ?_ ?_
  · rfl
  · rfl
noncomputable def sv34 : OrcS := fun al H => dC al fun y1 l2 => dS y1 fun y3 => dD 26 (.list 22 (.list 3 (.int .i64))) y3 fun x0 => dC l2 fun y4 l5 => dS y4 fun y6 => dFn 35 0 [none] y6 fun y7 => dC y7 fun y8 l9 => dPtr 0 0 y8 <| dE l9 <| dE l5 <| dHB 25 H fun y11 l10 => dC y11 fun y12 l13 => dD 3 (.int .i64) y12 fun x1 => dC l13 fun y14 l15 => dD 26 (.list 22 (.list 3 (.int .i64))) y14 fun x2 => dE l15 <| dE l10 <|  some [(ok (v34 x0 x1 x2), [.sc (.bool ((val (v34 x0 x1 x2))))], [.box 25 [.d 3 (.int .i64) (x1), .d 26 (.list 22 (.list 3 (.int .i64))) (x2)]])]
theorem wv34 : NewOrc Try.prog dOk base o24 t24 (34, sv34) := by
  intro al H q hq0 rs H2 h2
  have hq : sv34 al H = some q := hq0
  clear hq0
  unfold sv34 at hq
  replace hq := dC_some hq; obtain ⟨y1, l2, rfl, hq⟩ := hq
  replace hq := dS_some hq; obtain ⟨y3, rfl, hq⟩ := hq
  replace hq := dD_some hq; obtain ⟨x0, rfl, hq⟩ := hq
  replace hq := dC_some hq; obtain ⟨y4, l5, rfl, hq⟩ := hq
  replace hq := dS_some hq; obtain ⟨y6, rfl, hq⟩ := hq
  replace hq := dFn_some hq; obtain ⟨y7, rfl, hq⟩ := hq
  replace hq := dC_some hq; obtain ⟨y8, l9, rfl, hq⟩ := hq
  replace hq := dPtr_some hq; obtain ⟨rfl, hq⟩ := hq
  replace hq := dE_some hq; obtain ⟨rfl, hq⟩ := hq
  replace hq := dE_some hq; obtain ⟨rfl, hq⟩ := hq
  replace hq := dHB_some hq; obtain ⟨y11, l10, rfl, hq⟩ := hq
  replace hq := dC_some hq; obtain ⟨y12, l13, rfl, hq⟩ := hq
  replace hq := dD_some hq; obtain ⟨x1, rfl, hq⟩ := hq
  replace hq := dC_some hq; obtain ⟨y14, l15, rfl, hq⟩ := hq
  replace hq := dD_some hq; obtain ⟨x2, rfl, hq⟩ := hq
  replace hq := dE_some hq; obtain ⟨rfl, hq⟩ := hq
  replace hq := dE_some hq; obtain ⟨rfl, hq⟩ := hq
  cases hq
  obtain ⟨hc0, rfl, rfl⟩ := pickR_one h2
  exact ⟨41, (fn_eq (by kernel_rfl)).trans ((ev34 _ _ _).trans (bind_of (ok_val hc0)))⟩
noncomputable def o25 : OrcT := (34, sv34) :: o24
noncomputable def t25 : TellT := t24
noncomputable abbrev tn25 : FuncId → TAn := mkTn base o25 t25
theorem ok25 : TnOk Try.prog tn25 (mkA base) dOk := by
  have h0 : TnOk Try.prog (mkTn base o24 t24) (mkA base) dOk := ok24
  have h1 := tn_orc h0 h0 (p := (34, sv34)) wv34
  exact h1
noncomputable def v13 (x0 : (List Int)) (x1 : (List (List (List Int)))) : Option Bool := (cond (ok (v31 (↑(List.length x0) : Int) (1 : Int) (8 : Int))) (cond (!val (v31 (↑(List.length x0) : Int) (1 : Int) (8 : Int))) (some (false)) (cond (ok (v31 (↑(List.length x1) : Int) (1 : Int) (8 : Int))) (cond (!val (v31 (↑(List.length x1) : Int) (1 : Int) (8 : Int))) (some (false)) (cond (ok (v32 x0)) (cond (val (v32 x0)) (cond (ok (v34 x1 x0 x1)) (some (val (v34 x1 x0 x1))) none) (some (false))) none)) none)) none)
theorem ev13 (x0 : (List Int)) (x1 : (List (List (List Int)))) : fnBody Try.prog (mkTn base o25 t25 13) (TM.evF Try.prog (mkTn base o25 t25) dOk 40) dOk 40 13 [.agg [.d 3 (.int .i64) (x0), .d 26 (.list 22 (.list 3 (.int .i64))) (x1)]] [] = (v13 x0 x1).bind fun r => some ([.sc (.bool (r))], []) := by
  refine Eq.trans (b := (cond (ok (v31 (↑(List.length x0) : Int) (1 : Int) (8 : Int))) (cond (!val (v31 (↑(List.length x0) : Int) (1 : Int) (8 : Int))) (some ([.sc (.bool (false))], [])) (cond (ok (v31 (↑(List.length x1) : Int) (1 : Int) (8 : Int))) (cond (!val (v31 (↑(List.length x1) : Int) (1 : Int) (8 : Int))) (some ([.sc (.bool (false))], [])) (cond (ok (v32 x0)) (cond (val (v32 x0)) (cond (ok (v34 x1 x0 x1)) (some ([.sc (.bool (val (v34 x1 x0 x1)))], [])) none) (some ([.sc (.bool (false))], []))) none)) none)) none)) (by kernel_rfl) ?_
  unfold v13
  refine cond_bd ?_ ?_
  · refine cond_bd ?_ ?_
    · rfl
    · refine cond_bd ?_ ?_
      · refine cond_bd ?_ ?_
        · rfl
        · refine cond_bd ?_ ?_
          · refine cond_bd ?_ ?_
            · refine cond_bd ?_ ?_
              · rfl
              · rfl
            · rfl
          · rfl
      · rfl
  · rfl
noncomputable def sv13 : OrcS := fun al H => dC al fun y1 l2 => dA y1 fun y3 => dC y3 fun y4 l5 => dD 3 (.int .i64) y4 fun x0 => dC l5 fun y6 l7 => dD 26 (.list 22 (.list 3 (.int .i64))) y6 fun x1 => dE l7 <| dE l2 <| dE H <|  some [(ok (v13 x0 x1), [.sc (.bool ((val (v13 x0 x1))))], [])]
theorem wv13 : NewOrc Try.prog dOk base o25 t25 (13, sv13) := by
  intro al H q hq0 rs H2 h2
  have hq : sv13 al H = some q := hq0
  clear hq0
  unfold sv13 at hq
  replace hq := dC_some hq; obtain ⟨y1, l2, rfl, hq⟩ := hq
  replace hq := dA_some hq; obtain ⟨y3, rfl, hq⟩ := hq
  replace hq := dC_some hq; obtain ⟨y4, l5, rfl, hq⟩ := hq
  replace hq := dD_some hq; obtain ⟨x0, rfl, hq⟩ := hq
  replace hq := dC_some hq; obtain ⟨y6, l7, rfl, hq⟩ := hq
  replace hq := dD_some hq; obtain ⟨x1, rfl, hq⟩ := hq
  replace hq := dE_some hq; obtain ⟨rfl, hq⟩ := hq
  replace hq := dE_some hq; obtain ⟨rfl, hq⟩ := hq
  replace hq := dE_some hq; obtain ⟨rfl, hq⟩ := hq
  cases hq
  obtain ⟨hc0, rfl, rfl⟩ := pickR_one h2
  exact ⟨41, (fn_eq (by kernel_rfl)).trans ((ev13 _ _).trans (bind_of (ok_val hc0)))⟩
noncomputable def o26 : OrcT := (13, sv13) :: o25
noncomputable def t26 : TellT := t25
noncomputable abbrev tn26 : FuncId → TAn := mkTn base o26 t26
theorem ok26 : TnOk Try.prog tn26 (mkA base) dOk := by
  have h0 : TnOk Try.prog (mkTn base o25 t25) (mkA base) dOk := ok25
  have h1 := tn_orc h0 h0 (p := (13, sv13)) wv13
  exact h1
noncomputable def v41 (x0 : Int) : Option Bool := (cond (ok (v31 x0 (0 : Int) (1000000000 : Int))) (some (val (v31 x0 (0 : Int) (1000000000 : Int)))) none)
theorem ev41 (x0 : Int) : fnBody Try.prog (mkTn base o26 t26 41) (TM.evF Try.prog (mkTn base o26 t26) dOk 40) dOk 40 41 [.sc (.int .i64 (x0))] [] = (v41 x0).bind fun r => some ([.sc (.bool (r))], []) := by
  refine Eq.trans (b := (cond (ok (v31 x0 (0 : Int) (1000000000 : Int))) (some ([.sc (.bool (val (v31 x0 (0 : Int) (1000000000 : Int))))], [])) none)) (by kernel_rfl) ?_
  unfold v41
  refine cond_bd ?_ ?_
  · rfl
  · rfl
noncomputable def sv41 : OrcS := fun al H => dC al fun y1 l2 => dS y1 fun y3 => dInt .i64 y3 fun x0 => dE l2 <| dE H <|  some [(ok (v41 x0), [.sc (.bool ((val (v41 x0))))], [])]
theorem wv41 : NewOrc Try.prog dOk base o26 t26 (41, sv41) := by
  intro al H q hq0 rs H2 h2
  have hq : sv41 al H = some q := hq0
  clear hq0
  unfold sv41 at hq
  replace hq := dC_some hq; obtain ⟨y1, l2, rfl, hq⟩ := hq
  replace hq := dS_some hq; obtain ⟨y3, rfl, hq⟩ := hq
  replace hq := dInt_some hq; obtain ⟨x0, rfl, hq⟩ := hq
  replace hq := dE_some hq; obtain ⟨rfl, hq⟩ := hq
  replace hq := dE_some hq; obtain ⟨rfl, hq⟩ := hq
  cases hq
  obtain ⟨hc0, rfl, rfl⟩ := pickR_one h2
  exact ⟨41, (fn_eq (by kernel_rfl)).trans ((ev41 _).trans (bind_of (ok_val hc0)))⟩
noncomputable def o27 : OrcT := (41, sv41) :: o26
noncomputable def t27 : TellT := t26
noncomputable abbrev tn27 : FuncId → TAn := mkTn base o27 t27
theorem ok27 : TnOk Try.prog tn27 (mkA base) dOk := by
  have h0 : TnOk Try.prog (mkTn base o26 t26) (mkA base) dOk := ok26
  have h1 := tn_orc h0 h0 (p := (41, sv41)) wv41
  exact h1
noncomputable def v46_1 (x0 : Int) : Option Bool := (cond (ok (v41 x0)) (some (!val (v41 x0))) none)
theorem ev46_1 (x0 : Int) : fnBody Try.prog (mkTn base o27 t27 46) (TM.evF Try.prog (mkTn base o27 t27) dOk 40) dOk 40 46 [.sc (.int .i64 (x0)), .sc (.ptr 0 0)] [.box 53 [.fn 41 0 [] []]] = (v46_1 x0).bind fun r => some ([.sc (.bool (r))], [.box 53 [.fn 41 0 [] []]]) := by
  refine Eq.trans (b := (cond (ok (v41 x0)) (some ([.sc (.bool (!val (v41 x0)))], [.box 53 [.fn 41 0 [] []]])) none)) (by kernel_rfl) ?_
  unfold v46_1
  refine cond_bd ?_ ?_
  · rfl
  · rfl
noncomputable def sv46_1 : OrcS := fun al H => dC al fun y1 l2 => dS y1 fun y3 => dInt .i64 y3 fun x0 => dC l2 fun y4 l5 => dS y4 fun y6 => dPtr 0 0 y6 <| dE l5 <| dHB 53 H fun y8 l7 => dC y8 fun y9 l10 => dFn 41 0 [] y9 fun y11 => dE y11 <| dE l10 <| dE l7 <|  some [(ok (v46_1 x0), [.sc (.bool ((val (v46_1 x0))))], [.box 53 [.fn 41 0 [] []]])]
theorem wv46_1 : NewOrc Try.prog dOk base o27 t27 (46, sv46_1) := by
  intro al H q hq0 rs H2 h2
  have hq : sv46_1 al H = some q := hq0
  clear hq0
  unfold sv46_1 at hq
  replace hq := dC_some hq; obtain ⟨y1, l2, rfl, hq⟩ := hq
  replace hq := dS_some hq; obtain ⟨y3, rfl, hq⟩ := hq
  replace hq := dInt_some hq; obtain ⟨x0, rfl, hq⟩ := hq
  replace hq := dC_some hq; obtain ⟨y4, l5, rfl, hq⟩ := hq
  replace hq := dS_some hq; obtain ⟨y6, rfl, hq⟩ := hq
  replace hq := dPtr_some hq; obtain ⟨rfl, hq⟩ := hq
  replace hq := dE_some hq; obtain ⟨rfl, hq⟩ := hq
  replace hq := dHB_some hq; obtain ⟨y8, l7, rfl, hq⟩ := hq
  replace hq := dC_some hq; obtain ⟨y9, l10, rfl, hq⟩ := hq
  replace hq := dFn_some hq; obtain ⟨y11, rfl, hq⟩ := hq
  replace hq := dE_some hq; obtain ⟨rfl, hq⟩ := hq
  replace hq := dE_some hq; obtain ⟨rfl, hq⟩ := hq
  replace hq := dE_some hq; obtain ⟨rfl, hq⟩ := hq
  cases hq
  obtain ⟨hc0, rfl, rfl⟩ := pickR_one h2
  exact ⟨41, (fn_eq (by kernel_rfl)).trans ((ev46_1 _).trans (bind_of (ok_val hc0)))⟩
noncomputable def o28 : OrcT := (46, sv46_1) :: o27
noncomputable def t28 : TellT := t27
noncomputable abbrev tn28 : FuncId → TAn := mkTn base o28 t28
theorem ok28 : TnOk Try.prog tn28 (mkA base) dOk := by
  have h0 : TnOk Try.prog (mkTn base o27 t27) (mkA base) dOk := ok27
  have h1 := tn_orc h0 h0 (p := (46, sv46_1)) wv46_1
  exact h1
noncomputable def L53_0_1 : Nat → (List Int) → Int → Int → Option (Int ⊕ Unit)
  | 0, _, _, _ => none
  | n + 1, x0, x1, x2 => (cond (decide (x2 < x1)) (cond (decide ((0 : Int) ≤ x2)) (cond (decide (x2 < (↑(List.length x0) : Int))) (cond (ok (v46_1 (List.getD x0 (Int.toNat x2) (0 : Int)))) (cond (val (v46_1 (List.getD x0 (Int.toNat x2) (0 : Int)))) (some (.inl (x2))) (L53_0_1 n (x0) (x1) (IntKind.wrap IntKind.i64 (x2 + (1 : Int))))) none) none) none) (some (.inr ())))
theorem qL53_0_1 : type_of% @L53_0_1.eq_2 := @L53_0_1.eq_2
noncomputable def xL53_0_1 (x0 : (List Int)) (x1 : Int) (x2 : Int) : (Int ⊕ Unit) → Ex × CS := fun r => match r with | .inl a0 => (.ret, { sl := [(4, .v (.sc (.int .i64 (a0))))], lo := [], h := [.box 53 [.fn 41 0 [] []]], n0 := 1, w := true }) | .inr b0 => ((.exit 0), { sl := [], lo := [], h := [.box 53 [.fn 41 0 [] []]], n0 := 1, w := false })
theorem bL53_0_1 (k : Nat) (cN : CS → Option (Ex × CS)) (cX : Ex → CS → Option (Ex × CS)) (x0 : (List Int)) (x1 : Int) (x2 : Int) : loopBody Try.prog (mkTn base o28 t28 53) (TM.evF Try.prog (mkTn base o28 t28) dOk (k + 40)) dOk (k + 40) (codeAt Try.prog (tn0 53) 53 0) 0 0 { sl := [(0, .v (.sc (.d 3 (.int .i64) (x0)))), (1, .v (.sc (.fn 46 0 [none] [.ptr 0 0]))), (7, .v (.sc (.int .i64 (x1)))), (8, .v (.sc (.int .i64 (x2))))], lo := [], h := [.box 53 [.fn 41 0 [] []]], n0 := 1, w := false } cN cX = (cond (decide (x2 < x1)) (cond (decide ((0 : Int) ≤ x2)) (cond (decide (x2 < (↑(List.length x0) : Int))) (cond (ok (v46_1 (List.getD x0 (Int.toNat x2) (0 : Int)))) (cond (val (v46_1 (List.getD x0 (Int.toNat x2) (0 : Int)))) (cX .ret { sl := [(4, .v (.sc (.int .i64 (x2))))], lo := [], h := [.box 53 [.fn 41 0 [] []]], n0 := 1, w := true }) (cN { sl := [(0, .v (.sc (.d 3 (.int .i64) (x0)))), (1, .v (.sc (.fn 46 0 [none] [.ptr 0 0]))), (7, .v (.sc (.int .i64 (x1)))), (8, .v (.sc (.int .i64 (IntKind.wrap IntKind.i64 (x2 + (1 : Int))))))], lo := [], h := [.box 53 [.fn 41 0 [] []]], n0 := 1, w := false })) none) none) none) (cX (.exit 0) { sl := [], lo := [], h := [.box 53 [.fn 41 0 [] []]], n0 := 1, w := false })) := by kernel_rfl
theorem lL53_0_1 (k m : Nat) : ∀ (n : Nat) (x0 : (List Int)) (x1 : Int) (x2 : Int) (r : (Int ⊕ Unit)), L53_0_1 n x0 x1 x2 = some r → loopE Try.prog (mkTn base o28 t28 53) (TM.evF Try.prog (mkTn base o28 t28) dOk (k + 40)) dOk (k + 40) (codeAt Try.prog (tn0 53) 53 0) 0 0 (n + m) { sl := [(0, .v (.sc (.d 3 (.int .i64) (x0)))), (1, .v (.sc (.fn 46 0 [none] [.ptr 0 0]))), (7, .v (.sc (.int .i64 (x1)))), (8, .v (.sc (.int .i64 (x2))))], lo := [], h := [.box 53 [.fn 41 0 [] []]], n0 := 1, w := false } = some (xL53_0_1 x0 x1 x2 r) := by
  intro n
  induction n with
  | zero => intro _ _ _ r h; cases h
  | succ n ih =>
    intro x0 x1 x2 r
    rw [show n + 1 + m = n + m + 1 by omega, loop_step, bL53_0_1, qL53_0_1]
    refine cond_go ?_ ?_
    · refine cond_go ?_ ?_
      · refine cond_go ?_ ?_
        · refine cond_go ?_ ?_
          · refine cond_go ?_ ?_
            · intro h; cases h; rfl
            · exact ih _ _ _ r
          · intro h; cases h
        · intro h; cases h
      · intro h; cases h
    · intro h; cases h; rfl
noncomputable def sL53_0_1 : TellS := fun S => dCS 1 S fun y1 y2 y3 => dSs 0 y1 fun y5 l4 => dD 3 (.int .i64) y5 fun x0 => dSs 1 l4 fun y7 l6 => dFn 46 0 [none] y7 fun y8 => dC y8 fun y9 l10 => dPtr 0 0 y9 <| dE l10 <| dSI 7 .i64 l6 fun x1 l11 => dSI 8 .i64 l11 fun x2 l12 => dE l12 <| dE y2 <| dHB 53 y3 fun y14 l13 => dC y14 fun y15 l16 => dFn 41 0 [] y15 fun y17 => dE y17 <| dE l16 <| dE l13 <|  some [(isL (L53_0_1 FU x0 x1 x2), .ret, { sl := [(4, .v (.sc (.int .i64 ((getL (L53_0_1 FU x0 x1 x2))))))], lo := [], h := [.box 53 [.fn 41 0 [] []]], n0 := 1, w := true }), (ok (getR (L53_0_1 FU x0 x1 x2)), (.exit 0), { sl := [], lo := [], h := [.box 53 [.fn 41 0 [] []]], n0 := 1, w := false })]
theorem wL53_0_1 : NewTell Try.prog dOk base o28 t28 ((53, 0), sL53_0_1) := by
  refine ⟨.loop (codeAt Try.prog (tn0 53) 53 0), 0, by kernel_rfl, ?_⟩
  intro S alts e S' h10 h2
  have h1 : sL53_0_1 S = some alts := h10
  clear h10
  unfold sL53_0_1 at h1
  replace h1 := dCS_some h1; obtain ⟨y1, y2, y3, rfl, h1⟩ := h1
  replace h1 := dSs_some h1; obtain ⟨y5, l4, rfl, h1⟩ := h1
  replace h1 := dD_some h1; obtain ⟨x0, rfl, h1⟩ := h1
  replace h1 := dSs_some h1; obtain ⟨y7, l6, rfl, h1⟩ := h1
  replace h1 := dFn_some h1; obtain ⟨y8, rfl, h1⟩ := h1
  replace h1 := dC_some h1; obtain ⟨y9, l10, rfl, h1⟩ := h1
  replace h1 := dPtr_some h1; obtain ⟨rfl, h1⟩ := h1
  replace h1 := dE_some h1; obtain ⟨rfl, h1⟩ := h1
  replace h1 := dSI_some h1; obtain ⟨x1, l11, rfl, h1⟩ := h1
  replace h1 := dSI_some h1; obtain ⟨x2, l12, rfl, h1⟩ := h1
  replace h1 := dE_some h1; obtain ⟨rfl, h1⟩ := h1
  replace h1 := dE_some h1; obtain ⟨rfl, h1⟩ := h1
  replace h1 := dHB_some h1; obtain ⟨y14, l13, rfl, h1⟩ := h1
  replace h1 := dC_some h1; obtain ⟨y15, l16, rfl, h1⟩ := h1
  replace h1 := dFn_some h1; obtain ⟨y17, rfl, h1⟩ := h1
  replace h1 := dE_some h1; obtain ⟨rfl, h1⟩ := h1
  replace h1 := dE_some h1; obtain ⟨rfl, h1⟩ := h1
  replace h1 := dE_some h1; obtain ⟨rfl, h1⟩ := h1
  cases h1
  rcases pick_cons h2 with ⟨hc0, rfl, rfl⟩ | h2
  · exact ⟨FU + 40, (evPiece_loop rfl).trans (lL53_0_1 FU 40 FU _ _ _ _ (isL_val hc0))⟩
  obtain ⟨hc1, rfl, rfl⟩ := pick_one h2
  exact ⟨FU + 40, (evPiece_loop rfl).trans (lL53_0_1 FU 40 FU _ _ _ _ (getR_val (ok_val hc1)))⟩
noncomputable def o29 : OrcT := o28
noncomputable def t29 : TellT := ((53, 0), sL53_0_1) :: t28
noncomputable abbrev tn29 : FuncId → TAn := mkTn base o29 t29
theorem ok29 : TnOk Try.prog tn29 (mkA base) dOk := by
  have h0 : TnOk Try.prog (mkTn base o28 t28) (mkA base) dOk := ok28
  have h1 := tn_tell h0 h0 (p := ((53, 0), sL53_0_1)) wL53_0_1
  exact h1
noncomputable def v53_1 (x0 : (List Int)) : Option Int := (cond (isL (L53_0_1 FU x0 (↑(List.length x0) : Int) (0 : Int))) (some (getL (L53_0_1 FU x0 (↑(List.length x0) : Int) (0 : Int)))) (cond (ok (getR (L53_0_1 FU x0 (↑(List.length x0) : Int) (0 : Int)))) (some ((-1 : Int))) none))
theorem ev53_1 (x0 : (List Int)) : fnBody Try.prog (mkTn base o29 t29 53) (TM.evF Try.prog (mkTn base o29 t29) dOk 40) dOk 40 53 [.sc (.d 3 (.int .i64) (x0)), .sc (.fn 46 0 [none] [.ptr 0 0])] [.box 53 [.fn 41 0 [] []]] = (v53_1 x0).bind fun r => some ([.sc (.int .i64 (r))], [.box 53 [.fn 41 0 [] []]]) := by
  refine Eq.trans (b := (cond (isL (L53_0_1 FU x0 (↑(List.length x0) : Int) (0 : Int))) (some ([.sc (.int .i64 (getL (L53_0_1 FU x0 (↑(List.length x0) : Int) (0 : Int))))], [.box 53 [.fn 41 0 [] []]])) (cond (ok (getR (L53_0_1 FU x0 (↑(List.length x0) : Int) (0 : Int)))) (some ([.sc (.int .i64 ((-1 : Int)))], [.box 53 [.fn 41 0 [] []]])) none))) (by kernel_rfl) ?_
  unfold v53_1
  refine cond_bd ?_ ?_
  · rfl
  · refine cond_bd ?_ ?_
    · rfl
    · rfl
noncomputable def sv53_1 : OrcS := fun al H => dC al fun y1 l2 => dS y1 fun y3 => dD 3 (.int .i64) y3 fun x0 => dC l2 fun y4 l5 => dS y4 fun y6 => dFn 46 0 [none] y6 fun y7 => dC y7 fun y8 l9 => dPtr 0 0 y8 <| dE l9 <| dE l5 <| dHB 53 H fun y11 l10 => dC y11 fun y12 l13 => dFn 41 0 [] y12 fun y14 => dE y14 <| dE l13 <| dE l10 <|  some [(ok (v53_1 x0), [.sc (.int .i64 ((val (v53_1 x0))))], [.box 53 [.fn 41 0 [] []]])]
theorem wv53_1 : NewOrc Try.prog dOk base o29 t29 (53, sv53_1) := by
  intro al H q hq0 rs H2 h2
  have hq : sv53_1 al H = some q := hq0
  clear hq0
  unfold sv53_1 at hq
  replace hq := dC_some hq; obtain ⟨y1, l2, rfl, hq⟩ := hq
  replace hq := dS_some hq; obtain ⟨y3, rfl, hq⟩ := hq
  replace hq := dD_some hq; obtain ⟨x0, rfl, hq⟩ := hq
  replace hq := dC_some hq; obtain ⟨y4, l5, rfl, hq⟩ := hq
  replace hq := dS_some hq; obtain ⟨y6, rfl, hq⟩ := hq
  replace hq := dFn_some hq; obtain ⟨y7, rfl, hq⟩ := hq
  replace hq := dC_some hq; obtain ⟨y8, l9, rfl, hq⟩ := hq
  replace hq := dPtr_some hq; obtain ⟨rfl, hq⟩ := hq
  replace hq := dE_some hq; obtain ⟨rfl, hq⟩ := hq
  replace hq := dE_some hq; obtain ⟨rfl, hq⟩ := hq
  replace hq := dHB_some hq; obtain ⟨y11, l10, rfl, hq⟩ := hq
  replace hq := dC_some hq; obtain ⟨y12, l13, rfl, hq⟩ := hq
  replace hq := dFn_some hq; obtain ⟨y14, rfl, hq⟩ := hq
  replace hq := dE_some hq; obtain ⟨rfl, hq⟩ := hq
  replace hq := dE_some hq; obtain ⟨rfl, hq⟩ := hq
  replace hq := dE_some hq; obtain ⟨rfl, hq⟩ := hq
  cases hq
  obtain ⟨hc0, rfl, rfl⟩ := pickR_one h2
  exact ⟨41, (fn_eq (by kernel_rfl)).trans ((ev53_1 _).trans (bind_of (ok_val hc0)))⟩
noncomputable def o30 : OrcT := (53, sv53_1) :: o29
noncomputable def t30 : TellT := t29
noncomputable abbrev tn30 : FuncId → TAn := mkTn base o30 t30
theorem ok30 : TnOk Try.prog tn30 (mkA base) dOk := by
  have h0 : TnOk Try.prog (mkTn base o29 t29) (mkA base) dOk := ok29
  have h1 := tn_orc h0 h0 (p := (53, sv53_1)) wv53_1
  exact h1
noncomputable def v45_1 (x0 : (List Int)) : Option Bool := (cond (ok (v53_1 x0)) (some (decide (val (v53_1 x0) ≥ (0 : Int)))) none)
theorem ev45_1 (x0 : (List Int)) : fnBody Try.prog (mkTn base o30 t30 45) (TM.evF Try.prog (mkTn base o30 t30) dOk 40) dOk 40 45 [.sc (.d 3 (.int .i64) (x0)), .sc (.fn 46 0 [none] [.ptr 0 0])] [.box 53 [.fn 41 0 [] []]] = (v45_1 x0).bind fun r => some ([.sc (.bool (r))], [.box 53 [.fn 41 0 [] []]]) := by
  refine Eq.trans (b := (cond (ok (v53_1 x0)) (some ([.sc (.bool (decide (val (v53_1 x0) ≥ (0 : Int))))], [.box 53 [.fn 41 0 [] []]])) none)) (by kernel_rfl) ?_
  unfold v45_1
  refine cond_bd ?_ ?_
  · rfl
  · rfl
noncomputable def sv45_1 : OrcS := fun al H => dC al fun y1 l2 => dS y1 fun y3 => dD 3 (.int .i64) y3 fun x0 => dC l2 fun y4 l5 => dS y4 fun y6 => dFn 46 0 [none] y6 fun y7 => dC y7 fun y8 l9 => dPtr 0 0 y8 <| dE l9 <| dE l5 <| dHB 53 H fun y11 l10 => dC y11 fun y12 l13 => dFn 41 0 [] y12 fun y14 => dE y14 <| dE l13 <| dE l10 <|  some [(ok (v45_1 x0), [.sc (.bool ((val (v45_1 x0))))], [.box 53 [.fn 41 0 [] []]])]
theorem wv45_1 : NewOrc Try.prog dOk base o30 t30 (45, sv45_1) := by
  intro al H q hq0 rs H2 h2
  have hq : sv45_1 al H = some q := hq0
  clear hq0
  unfold sv45_1 at hq
  replace hq := dC_some hq; obtain ⟨y1, l2, rfl, hq⟩ := hq
  replace hq := dS_some hq; obtain ⟨y3, rfl, hq⟩ := hq
  replace hq := dD_some hq; obtain ⟨x0, rfl, hq⟩ := hq
  replace hq := dC_some hq; obtain ⟨y4, l5, rfl, hq⟩ := hq
  replace hq := dS_some hq; obtain ⟨y6, rfl, hq⟩ := hq
  replace hq := dFn_some hq; obtain ⟨y7, rfl, hq⟩ := hq
  replace hq := dC_some hq; obtain ⟨y8, l9, rfl, hq⟩ := hq
  replace hq := dPtr_some hq; obtain ⟨rfl, hq⟩ := hq
  replace hq := dE_some hq; obtain ⟨rfl, hq⟩ := hq
  replace hq := dE_some hq; obtain ⟨rfl, hq⟩ := hq
  replace hq := dHB_some hq; obtain ⟨y11, l10, rfl, hq⟩ := hq
  replace hq := dC_some hq; obtain ⟨y12, l13, rfl, hq⟩ := hq
  replace hq := dFn_some hq; obtain ⟨y14, rfl, hq⟩ := hq
  replace hq := dE_some hq; obtain ⟨rfl, hq⟩ := hq
  replace hq := dE_some hq; obtain ⟨rfl, hq⟩ := hq
  replace hq := dE_some hq; obtain ⟨rfl, hq⟩ := hq
  cases hq
  obtain ⟨hc0, rfl, rfl⟩ := pickR_one h2
  exact ⟨41, (fn_eq (by kernel_rfl)).trans ((ev45_1 _).trans (bind_of (ok_val hc0)))⟩
noncomputable def o31 : OrcT := (45, sv45_1) :: o30
noncomputable def t31 : TellT := t30
noncomputable abbrev tn31 : FuncId → TAn := mkTn base o31 t31
theorem ok31 : TnOk Try.prog tn31 (mkA base) dOk := by
  have h0 : TnOk Try.prog (mkTn base o30 t30) (mkA base) dOk := ok30
  have h1 := tn_orc h0 h0 (p := (45, sv45_1)) wv45_1
  exact h1
noncomputable def v32_1 (x0 : (List Int)) : Option Bool := (cond (ok (v45_1 x0)) (some (!val (v45_1 x0))) none)
theorem ev32_1 (x0 : (List Int)) : fnBody Try.prog (mkTn base o31 t31 32) (TM.evF Try.prog (mkTn base o31 t31) dOk 40) dOk 40 32 [.sc (.d 3 (.int .i64) (x0)), .sc (.fn 41 0 [] [])] [] = (v32_1 x0).bind fun r => some ([.sc (.bool (r))], []) := by
  refine Eq.trans (b := (cond (ok (v45_1 x0)) (some ([.sc (.bool (!val (v45_1 x0)))], [])) none)) (by kernel_rfl) ?_
  unfold v32_1
  refine cond_bd ?_ ?_
  · rfl
  · rfl
noncomputable def sv32_1 : OrcS := fun al H => dC al fun y1 l2 => dS y1 fun y3 => dD 3 (.int .i64) y3 fun x0 => dC l2 fun y4 l5 => dS y4 fun y6 => dFn 41 0 [] y6 fun y7 => dE y7 <| dE l5 <| dE H <|  some [(ok (v32_1 x0), [.sc (.bool ((val (v32_1 x0))))], [])]
theorem wv32_1 : NewOrc Try.prog dOk base o31 t31 (32, sv32_1) := by
  intro al H q hq0 rs H2 h2
  have hq : sv32_1 al H = some q := hq0
  clear hq0
  unfold sv32_1 at hq
  replace hq := dC_some hq; obtain ⟨y1, l2, rfl, hq⟩ := hq
  replace hq := dS_some hq; obtain ⟨y3, rfl, hq⟩ := hq
  replace hq := dD_some hq; obtain ⟨x0, rfl, hq⟩ := hq
  replace hq := dC_some hq; obtain ⟨y4, l5, rfl, hq⟩ := hq
  replace hq := dS_some hq; obtain ⟨y6, rfl, hq⟩ := hq
  replace hq := dFn_some hq; obtain ⟨y7, rfl, hq⟩ := hq
  replace hq := dE_some hq; obtain ⟨rfl, hq⟩ := hq
  replace hq := dE_some hq; obtain ⟨rfl, hq⟩ := hq
  replace hq := dE_some hq; obtain ⟨rfl, hq⟩ := hq
  cases hq
  obtain ⟨hc0, rfl, rfl⟩ := pickR_one h2
  exact ⟨41, (fn_eq (by kernel_rfl)).trans ((ev32_1 _).trans (bind_of (ok_val hc0)))⟩
noncomputable def o32 : OrcT := (32, sv32_1) :: o31
noncomputable def t32 : TellT := t31
noncomputable abbrev tn32 : FuncId → TAn := mkTn base o32 t32
theorem ok32 : TnOk Try.prog tn32 (mkA base) dOk := by
  have h0 : TnOk Try.prog (mkTn base o31 t31) (mkA base) dOk := ok31
  have h1 := tn_orc h0 h0 (p := (32, sv32_1)) wv32_1
  exact h1
noncomputable def L26_0_0 : Nat → (List Int) → (List (List Int)) → Int → Int → (List Int) → (List (List (List Int))) → Option (Bool ⊕ Unit)
  | 0, _, _, _, _, _, _ => none
  | n + 1, x0, x1, x2, x3, x4, x5 => (cond (decide (x3 < x2)) (cond (decide ((0 : Int) ≤ x3)) (cond (decide (x3 < (↑(List.length x1) : Int))) (cond (decide (x3 < (↑(List.length x5) : Int))) (cond ((↑(List.length (List.getD x1 (Int.toNat x3) [])) : Int) != (↑(List.length (List.getD x5 (Int.toNat x3) [])) : Int)) (some (.inl (false))) (cond (ok (v32_1 (List.getD x1 (Int.toNat x3) []))) (cond (!val (v32_1 (List.getD x1 (Int.toNat x3) []))) (some (.inl (false))) (L26_0_0 n (x0) (x1) (x2) (IntKind.wrap IntKind.i64 (x3 + (1 : Int))) (x4) (x5))) none)) none) none) none) (some (.inr ())))
theorem qL26_0_0 : type_of% @L26_0_0.eq_2 := @L26_0_0.eq_2
noncomputable def xL26_0_0 (x0 : (List Int)) (x1 : (List (List Int))) (x2 : Int) (x3 : Int) (x4 : (List Int)) (x5 : (List (List (List Int)))) : (Bool ⊕ Unit) → Ex × CS := fun r => match r with | .inl a0 => (.ret, { sl := [(6, .v (.sc (.bool (a0))))], lo := [], h := [], n0 := 0, w := true }) | .inr b0 => ((.exit 0), { sl := [(2, .v (.sc (.d 3 (.int .i64) (x0)))), (3, .l 3 0)], lo := [], h := [], n0 := 0, w := false })
theorem bL26_0_0 (k : Nat) (cN : CS → Option (Ex × CS)) (cX : Ex → CS → Option (Ex × CS)) (x0 : (List Int)) (x1 : (List (List Int))) (x2 : Int) (x3 : Int) (x4 : (List Int)) (x5 : (List (List (List Int)))) : loopBody Try.prog (mkTn base o32 t32 26) (TM.evF Try.prog (mkTn base o32 t32) dOk (k + 40)) dOk (k + 40) (codeAt Try.prog (tn0 26) 26 0) 0 0 { sl := [(2, .v (.sc (.d 3 (.int .i64) (x0)))), (3, .l 3 0), (23, .v (.sc (.d 22 (.list 3 (.int .i64)) (x1)))), (24, .v (.sc (.int .i64 (x2)))), (25, .v (.sc (.int .i64 (x3))))], lo := [(3, [.d 3 (.int .i64) (x4), .d 26 (.list 22 (.list 3 (.int .i64))) (x5)])], h := [], n0 := 0, w := false } cN cX = (cond (decide (x3 < x2)) (cond (decide ((0 : Int) ≤ x3)) (cond (decide (x3 < (↑(List.length x1) : Int))) (cond (decide ((0 : Int) ≤ x3)) (cond (decide (x3 < (↑(List.length x5) : Int))) (cond ((↑(List.length (List.getD x1 (Int.toNat x3) [])) : Int) != (↑(List.length (List.getD x5 (Int.toNat x3) [])) : Int)) (cX .ret { sl := [(6, .v (.sc (.bool (false))))], lo := [], h := [], n0 := 0, w := true }) (cond (ok (v32_1 (List.getD x1 (Int.toNat x3) []))) (cond (!val (v32_1 (List.getD x1 (Int.toNat x3) []))) (cX .ret { sl := [(6, .v (.sc (.bool (false))))], lo := [], h := [], n0 := 0, w := true }) (cN { sl := [(2, .v (.sc (.d 3 (.int .i64) (x0)))), (3, .l 3 0), (23, .v (.sc (.d 22 (.list 3 (.int .i64)) (x1)))), (24, .v (.sc (.int .i64 (x2)))), (25, .v (.sc (.int .i64 (IntKind.wrap IntKind.i64 (x3 + (1 : Int))))))], lo := [(3, [.d 3 (.int .i64) (x4), .d 26 (.list 22 (.list 3 (.int .i64))) (x5)])], h := [], n0 := 0, w := false })) none)) none) none) none) none) (cX (.exit 0) { sl := [(2, .v (.sc (.d 3 (.int .i64) (x0)))), (3, .l 3 0)], lo := [], h := [], n0 := 0, w := false })) := by kernel_rfl
theorem lL26_0_0 (k m : Nat) : ∀ (n : Nat) (x0 : (List Int)) (x1 : (List (List Int))) (x2 : Int) (x3 : Int) (x4 : (List Int)) (x5 : (List (List (List Int)))) (r : (Bool ⊕ Unit)), L26_0_0 n x0 x1 x2 x3 x4 x5 = some r → loopE Try.prog (mkTn base o32 t32 26) (TM.evF Try.prog (mkTn base o32 t32) dOk (k + 40)) dOk (k + 40) (codeAt Try.prog (tn0 26) 26 0) 0 0 (n + m) { sl := [(2, .v (.sc (.d 3 (.int .i64) (x0)))), (3, .l 3 0), (23, .v (.sc (.d 22 (.list 3 (.int .i64)) (x1)))), (24, .v (.sc (.int .i64 (x2)))), (25, .v (.sc (.int .i64 (x3))))], lo := [(3, [.d 3 (.int .i64) (x4), .d 26 (.list 22 (.list 3 (.int .i64))) (x5)])], h := [], n0 := 0, w := false } = some (xL26_0_0 x0 x1 x2 x3 x4 x5 r) := by
  intro n
  induction n with
  | zero => intro _ _ _ _ _ _ r h; cases h
  | succ n ih =>
    intro x0 x1 x2 x3 x4 x5 r
    rw [show n + 1 + m = n + m + 1 by omega, loop_step, bL26_0_0, qL26_0_0]
    cases (decide (x3 < x2)) with
    | true =>
      cases (decide ((0 : Int) ≤ x3)) with
      | true =>
        cases (decide (x3 < (↑(List.length x1) : Int))) with
        | true =>
          cases (decide (x3 < (↑(List.length x5) : Int))) with
          | true =>
            cases ((↑(List.length (List.getD x1 (Int.toNat x3) [])) : Int) != (↑(List.length (List.getD x5 (Int.toNat x3) [])) : Int)) with
            | true =>
              intro h; cases h; rfl
            | false =>
              cases (ok (v32_1 (List.getD x1 (Int.toNat x3) []))) with
              | true =>
                cases (!val (v32_1 (List.getD x1 (Int.toNat x3) []))) with
                | true =>
                  intro h; cases h; rfl
                | false =>
                  exact ih _ _ _ _ _ _ r
              | false =>
                intro h; cases h
          | false =>
            intro h; cases h
        | false =>
          intro h; cases h
      | false =>
        intro h; cases h
    | false =>
      intro h; cases h; rfl
noncomputable def sL26_0_0 : TellS := fun S => dCS 0 S fun y1 y2 y3 => dSs 2 y1 fun y5 l4 => dD 3 (.int .i64) y5 fun x0 => dSt 3 l4 fun y7 l6 => dL 3 0 y7 <| dSs 23 l6 fun y9 l8 => dD 22 (.list 3 (.int .i64)) y9 fun x1 => dSI 24 .i64 l8 fun x2 l10 => dSI 25 .i64 l10 fun x3 l11 => dE l11 <| dLo 3 y2 fun y12 l13 => dC y12 fun y14 l15 => dD 3 (.int .i64) y14 fun x4 => dC l15 fun y16 l17 => dD 26 (.list 22 (.list 3 (.int .i64))) y16 fun x5 => dE l17 <| dE l13 <| dE y3 <|  some [(isL (L26_0_0 FU x0 x1 x2 x3 x4 x5), .ret, { sl := [(6, .v (.sc (.bool ((getL (L26_0_0 FU x0 x1 x2 x3 x4 x5))))))], lo := [], h := [], n0 := 0, w := true }), (ok (getR (L26_0_0 FU x0 x1 x2 x3 x4 x5)), (.exit 0), { sl := [(2, .v (.sc (.d 3 (.int .i64) (x0)))), (3, .l 3 0)], lo := [], h := [], n0 := 0, w := false })]
theorem wL26_0_0 : NewTell Try.prog dOk base o32 t32 ((26, 0), sL26_0_0) := by
  refine ⟨.loop (codeAt Try.prog (tn0 26) 26 0), 0, by kernel_rfl, ?_⟩
  intro S alts e S' h10 h2
  have h1 : sL26_0_0 S = some alts := h10
  clear h10
  unfold sL26_0_0 at h1
  replace h1 := dCS_some h1; obtain ⟨y1, y2, y3, rfl, h1⟩ := h1
  replace h1 := dSs_some h1; obtain ⟨y5, l4, rfl, h1⟩ := h1
  replace h1 := dD_some h1; obtain ⟨x0, rfl, h1⟩ := h1
  replace h1 := dSt_some h1; obtain ⟨y7, l6, rfl, h1⟩ := h1
  replace h1 := dL_some h1; obtain ⟨rfl, h1⟩ := h1
  replace h1 := dSs_some h1; obtain ⟨y9, l8, rfl, h1⟩ := h1
  replace h1 := dD_some h1; obtain ⟨x1, rfl, h1⟩ := h1
  replace h1 := dSI_some h1; obtain ⟨x2, l10, rfl, h1⟩ := h1
  replace h1 := dSI_some h1; obtain ⟨x3, l11, rfl, h1⟩ := h1
  replace h1 := dE_some h1; obtain ⟨rfl, h1⟩ := h1
  replace h1 := dLo_some h1; obtain ⟨y12, l13, rfl, h1⟩ := h1
  replace h1 := dC_some h1; obtain ⟨y14, l15, rfl, h1⟩ := h1
  replace h1 := dD_some h1; obtain ⟨x4, rfl, h1⟩ := h1
  replace h1 := dC_some h1; obtain ⟨y16, l17, rfl, h1⟩ := h1
  replace h1 := dD_some h1; obtain ⟨x5, rfl, h1⟩ := h1
  replace h1 := dE_some h1; obtain ⟨rfl, h1⟩ := h1
  replace h1 := dE_some h1; obtain ⟨rfl, h1⟩ := h1
  replace h1 := dE_some h1; obtain ⟨rfl, h1⟩ := h1
  cases h1
  rcases pick_cons h2 with ⟨hc0, rfl, rfl⟩ | h2
  · exact ⟨FU + 40, (evPiece_loop rfl).trans (lL26_0_0 FU 40 FU _ _ _ _ _ _ _ (isL_val hc0))⟩
  obtain ⟨hc1, rfl, rfl⟩ := pick_one h2
  exact ⟨FU + 40, (evPiece_loop rfl).trans (lL26_0_0 FU 40 FU _ _ _ _ _ _ _ (getR_val (ok_val hc1)))⟩
noncomputable def o33 : OrcT := o32
noncomputable def t33 : TellT := ((26, 0), sL26_0_0) :: t32
noncomputable abbrev tn33 : FuncId → TAn := mkTn base o33 t33
theorem ok33 : TnOk Try.prog tn33 (mkA base) dOk := by
  have h0 : TnOk Try.prog (mkTn base o32 t32) (mkA base) dOk := ok32
  have h1 := tn_tell h0 h0 (p := ((26, 0), sL26_0_0)) wL26_0_0
  exact h1
noncomputable def v42 (x0 : Int) : Option Bool := (cond (ok (v31 x0 (0 : Int) (1000000000000 : Int))) (some (val (v31 x0 (0 : Int) (1000000000000 : Int)))) none)
theorem ev42 (x0 : Int) : fnBody Try.prog (mkTn base o33 t33 42) (TM.evF Try.prog (mkTn base o33 t33) dOk 40) dOk 40 42 [.sc (.int .i64 (x0))] [] = (v42 x0).bind fun r => some ([.sc (.bool (r))], []) := by
  refine Eq.trans (b := (cond (ok (v31 x0 (0 : Int) (1000000000000 : Int))) (some ([.sc (.bool (val (v31 x0 (0 : Int) (1000000000000 : Int))))], [])) none)) (by kernel_rfl) ?_
  unfold v42
  refine cond_bd ?_ ?_
  · rfl
  · rfl
noncomputable def sv42 : OrcS := fun al H => dC al fun y1 l2 => dS y1 fun y3 => dInt .i64 y3 fun x0 => dE l2 <| dE H <|  some [(ok (v42 x0), [.sc (.bool ((val (v42 x0))))], [])]
theorem wv42 : NewOrc Try.prog dOk base o33 t33 (42, sv42) := by
  intro al H q hq0 rs H2 h2
  have hq : sv42 al H = some q := hq0
  clear hq0
  unfold sv42 at hq
  replace hq := dC_some hq; obtain ⟨y1, l2, rfl, hq⟩ := hq
  replace hq := dS_some hq; obtain ⟨y3, rfl, hq⟩ := hq
  replace hq := dInt_some hq; obtain ⟨x0, rfl, hq⟩ := hq
  replace hq := dE_some hq; obtain ⟨rfl, hq⟩ := hq
  replace hq := dE_some hq; obtain ⟨rfl, hq⟩ := hq
  cases hq
  obtain ⟨hc0, rfl, rfl⟩ := pickR_one h2
  exact ⟨41, (fn_eq (by kernel_rfl)).trans ((ev42 _).trans (bind_of (ok_val hc0)))⟩
noncomputable def o34 : OrcT := (42, sv42) :: o33
noncomputable def t34 : TellT := t33
noncomputable abbrev tn34 : FuncId → TAn := mkTn base o34 t34
theorem ok34 : TnOk Try.prog tn34 (mkA base) dOk := by
  have h0 : TnOk Try.prog (mkTn base o33 t33) (mkA base) dOk := ok33
  have h1 := tn_orc h0 h0 (p := (42, sv42)) wv42
  exact h1
noncomputable def v46_2 (x0 : Int) : Option Bool := (cond (ok (v42 x0)) (some (!val (v42 x0))) none)
theorem ev46_2 (x0 : Int) : fnBody Try.prog (mkTn base o34 t34 46) (TM.evF Try.prog (mkTn base o34 t34) dOk 40) dOk 40 46 [.sc (.int .i64 (x0)), .sc (.ptr 0 0)] [.box 53 [.fn 42 0 [] []]] = (v46_2 x0).bind fun r => some ([.sc (.bool (r))], [.box 53 [.fn 42 0 [] []]]) := by
  refine Eq.trans (b := (cond (ok (v42 x0)) (some ([.sc (.bool (!val (v42 x0)))], [.box 53 [.fn 42 0 [] []]])) none)) (by kernel_rfl) ?_
  unfold v46_2
  refine cond_bd ?_ ?_
  · rfl
  · rfl
noncomputable def sv46_2 : OrcS := fun al H => dC al fun y1 l2 => dS y1 fun y3 => dInt .i64 y3 fun x0 => dC l2 fun y4 l5 => dS y4 fun y6 => dPtr 0 0 y6 <| dE l5 <| dHB 53 H fun y8 l7 => dC y8 fun y9 l10 => dFn 42 0 [] y9 fun y11 => dE y11 <| dE l10 <| dE l7 <|  some [(ok (v46_2 x0), [.sc (.bool ((val (v46_2 x0))))], [.box 53 [.fn 42 0 [] []]])]
theorem wv46_2 : NewOrc Try.prog dOk base o34 t34 (46, sv46_2) := by
  intro al H q hq0 rs H2 h2
  have hq : sv46_2 al H = some q := hq0
  clear hq0
  unfold sv46_2 at hq
  replace hq := dC_some hq; obtain ⟨y1, l2, rfl, hq⟩ := hq
  replace hq := dS_some hq; obtain ⟨y3, rfl, hq⟩ := hq
  replace hq := dInt_some hq; obtain ⟨x0, rfl, hq⟩ := hq
  replace hq := dC_some hq; obtain ⟨y4, l5, rfl, hq⟩ := hq
  replace hq := dS_some hq; obtain ⟨y6, rfl, hq⟩ := hq
  replace hq := dPtr_some hq; obtain ⟨rfl, hq⟩ := hq
  replace hq := dE_some hq; obtain ⟨rfl, hq⟩ := hq
  replace hq := dHB_some hq; obtain ⟨y8, l7, rfl, hq⟩ := hq
  replace hq := dC_some hq; obtain ⟨y9, l10, rfl, hq⟩ := hq
  replace hq := dFn_some hq; obtain ⟨y11, rfl, hq⟩ := hq
  replace hq := dE_some hq; obtain ⟨rfl, hq⟩ := hq
  replace hq := dE_some hq; obtain ⟨rfl, hq⟩ := hq
  replace hq := dE_some hq; obtain ⟨rfl, hq⟩ := hq
  cases hq
  obtain ⟨hc0, rfl, rfl⟩ := pickR_one h2
  exact ⟨41, (fn_eq (by kernel_rfl)).trans ((ev46_2 _).trans (bind_of (ok_val hc0)))⟩
noncomputable def o35 : OrcT := (46, sv46_2) :: o34
noncomputable def t35 : TellT := t34
noncomputable abbrev tn35 : FuncId → TAn := mkTn base o35 t35
theorem ok35 : TnOk Try.prog tn35 (mkA base) dOk := by
  have h0 : TnOk Try.prog (mkTn base o34 t34) (mkA base) dOk := ok34
  have h1 := tn_orc h0 h0 (p := (46, sv46_2)) wv46_2
  exact h1
noncomputable def L53_0_2 : Nat → (List Int) → Int → Int → Option (Int ⊕ Unit)
  | 0, _, _, _ => none
  | n + 1, x0, x1, x2 => (cond (decide (x2 < x1)) (cond (decide ((0 : Int) ≤ x2)) (cond (decide (x2 < (↑(List.length x0) : Int))) (cond (ok (v46_2 (List.getD x0 (Int.toNat x2) (0 : Int)))) (cond (val (v46_2 (List.getD x0 (Int.toNat x2) (0 : Int)))) (some (.inl (x2))) (L53_0_2 n (x0) (x1) (IntKind.wrap IntKind.i64 (x2 + (1 : Int))))) none) none) none) (some (.inr ())))
theorem qL53_0_2 : type_of% @L53_0_2.eq_2 := @L53_0_2.eq_2
noncomputable def xL53_0_2 (x0 : (List Int)) (x1 : Int) (x2 : Int) : (Int ⊕ Unit) → Ex × CS := fun r => match r with | .inl a0 => (.ret, { sl := [(4, .v (.sc (.int .i64 (a0))))], lo := [], h := [.box 53 [.fn 42 0 [] []]], n0 := 1, w := true }) | .inr b0 => ((.exit 0), { sl := [], lo := [], h := [.box 53 [.fn 42 0 [] []]], n0 := 1, w := false })
theorem bL53_0_2 (k : Nat) (cN : CS → Option (Ex × CS)) (cX : Ex → CS → Option (Ex × CS)) (x0 : (List Int)) (x1 : Int) (x2 : Int) : loopBody Try.prog (mkTn base o35 t35 53) (TM.evF Try.prog (mkTn base o35 t35) dOk (k + 40)) dOk (k + 40) (codeAt Try.prog (tn0 53) 53 0) 0 0 { sl := [(0, .v (.sc (.d 3 (.int .i64) (x0)))), (1, .v (.sc (.fn 46 0 [none] [.ptr 0 0]))), (7, .v (.sc (.int .i64 (x1)))), (8, .v (.sc (.int .i64 (x2))))], lo := [], h := [.box 53 [.fn 42 0 [] []]], n0 := 1, w := false } cN cX = (cond (decide (x2 < x1)) (cond (decide ((0 : Int) ≤ x2)) (cond (decide (x2 < (↑(List.length x0) : Int))) (cond (ok (v46_2 (List.getD x0 (Int.toNat x2) (0 : Int)))) (cond (val (v46_2 (List.getD x0 (Int.toNat x2) (0 : Int)))) (cX .ret { sl := [(4, .v (.sc (.int .i64 (x2))))], lo := [], h := [.box 53 [.fn 42 0 [] []]], n0 := 1, w := true }) (cN { sl := [(0, .v (.sc (.d 3 (.int .i64) (x0)))), (1, .v (.sc (.fn 46 0 [none] [.ptr 0 0]))), (7, .v (.sc (.int .i64 (x1)))), (8, .v (.sc (.int .i64 (IntKind.wrap IntKind.i64 (x2 + (1 : Int))))))], lo := [], h := [.box 53 [.fn 42 0 [] []]], n0 := 1, w := false })) none) none) none) (cX (.exit 0) { sl := [], lo := [], h := [.box 53 [.fn 42 0 [] []]], n0 := 1, w := false })) := by kernel_rfl
theorem lL53_0_2 (k m : Nat) : ∀ (n : Nat) (x0 : (List Int)) (x1 : Int) (x2 : Int) (r : (Int ⊕ Unit)), L53_0_2 n x0 x1 x2 = some r → loopE Try.prog (mkTn base o35 t35 53) (TM.evF Try.prog (mkTn base o35 t35) dOk (k + 40)) dOk (k + 40) (codeAt Try.prog (tn0 53) 53 0) 0 0 (n + m) { sl := [(0, .v (.sc (.d 3 (.int .i64) (x0)))), (1, .v (.sc (.fn 46 0 [none] [.ptr 0 0]))), (7, .v (.sc (.int .i64 (x1)))), (8, .v (.sc (.int .i64 (x2))))], lo := [], h := [.box 53 [.fn 42 0 [] []]], n0 := 1, w := false } = some (xL53_0_2 x0 x1 x2 r) := by
  intro n
  induction n with
  | zero => intro _ _ _ r h; cases h
  | succ n ih =>
    intro x0 x1 x2 r
    rw [show n + 1 + m = n + m + 1 by omega, loop_step, bL53_0_2, qL53_0_2]
    refine cond_go ?_ ?_
    · refine cond_go ?_ ?_
      · refine cond_go ?_ ?_
        · refine cond_go ?_ ?_
          · refine cond_go ?_ ?_
            · intro h; cases h; rfl
            · exact ih _ _ _ r
          · intro h; cases h
        · intro h; cases h
      · intro h; cases h
    · intro h; cases h; rfl
noncomputable def sL53_0_2 : TellS := fun S => dCS 1 S fun y1 y2 y3 => dSs 0 y1 fun y5 l4 => dD 3 (.int .i64) y5 fun x0 => dSs 1 l4 fun y7 l6 => dFn 46 0 [none] y7 fun y8 => dC y8 fun y9 l10 => dPtr 0 0 y9 <| dE l10 <| dSI 7 .i64 l6 fun x1 l11 => dSI 8 .i64 l11 fun x2 l12 => dE l12 <| dE y2 <| dHB 53 y3 fun y14 l13 => dC y14 fun y15 l16 => dFn 42 0 [] y15 fun y17 => dE y17 <| dE l16 <| dE l13 <|  some [(isL (L53_0_2 FU x0 x1 x2), .ret, { sl := [(4, .v (.sc (.int .i64 ((getL (L53_0_2 FU x0 x1 x2))))))], lo := [], h := [.box 53 [.fn 42 0 [] []]], n0 := 1, w := true }), (ok (getR (L53_0_2 FU x0 x1 x2)), (.exit 0), { sl := [], lo := [], h := [.box 53 [.fn 42 0 [] []]], n0 := 1, w := false })]
theorem wL53_0_2 : NewTell Try.prog dOk base o35 t35 ((53, 0), sL53_0_2) := by
  refine ⟨.loop (codeAt Try.prog (tn0 53) 53 0), 0, by kernel_rfl, ?_⟩
  intro S alts e S' h10 h2
  have h1 : sL53_0_2 S = some alts := h10
  clear h10
  unfold sL53_0_2 at h1
  replace h1 := dCS_some h1; obtain ⟨y1, y2, y3, rfl, h1⟩ := h1
  replace h1 := dSs_some h1; obtain ⟨y5, l4, rfl, h1⟩ := h1
  replace h1 := dD_some h1; obtain ⟨x0, rfl, h1⟩ := h1
  replace h1 := dSs_some h1; obtain ⟨y7, l6, rfl, h1⟩ := h1
  replace h1 := dFn_some h1; obtain ⟨y8, rfl, h1⟩ := h1
  replace h1 := dC_some h1; obtain ⟨y9, l10, rfl, h1⟩ := h1
  replace h1 := dPtr_some h1; obtain ⟨rfl, h1⟩ := h1
  replace h1 := dE_some h1; obtain ⟨rfl, h1⟩ := h1
  replace h1 := dSI_some h1; obtain ⟨x1, l11, rfl, h1⟩ := h1
  replace h1 := dSI_some h1; obtain ⟨x2, l12, rfl, h1⟩ := h1
  replace h1 := dE_some h1; obtain ⟨rfl, h1⟩ := h1
  replace h1 := dE_some h1; obtain ⟨rfl, h1⟩ := h1
  replace h1 := dHB_some h1; obtain ⟨y14, l13, rfl, h1⟩ := h1
  replace h1 := dC_some h1; obtain ⟨y15, l16, rfl, h1⟩ := h1
  replace h1 := dFn_some h1; obtain ⟨y17, rfl, h1⟩ := h1
  replace h1 := dE_some h1; obtain ⟨rfl, h1⟩ := h1
  replace h1 := dE_some h1; obtain ⟨rfl, h1⟩ := h1
  replace h1 := dE_some h1; obtain ⟨rfl, h1⟩ := h1
  cases h1
  rcases pick_cons h2 with ⟨hc0, rfl, rfl⟩ | h2
  · exact ⟨FU + 40, (evPiece_loop rfl).trans (lL53_0_2 FU 40 FU _ _ _ _ (isL_val hc0))⟩
  obtain ⟨hc1, rfl, rfl⟩ := pick_one h2
  exact ⟨FU + 40, (evPiece_loop rfl).trans (lL53_0_2 FU 40 FU _ _ _ _ (getR_val (ok_val hc1)))⟩
noncomputable def o36 : OrcT := o35
noncomputable def t36 : TellT := ((53, 0), sL53_0_2) :: t35
noncomputable abbrev tn36 : FuncId → TAn := mkTn base o36 t36
theorem ok36 : TnOk Try.prog tn36 (mkA base) dOk := by
  have h0 : TnOk Try.prog (mkTn base o35 t35) (mkA base) dOk := ok35
  have h1 := tn_tell h0 h0 (p := ((53, 0), sL53_0_2)) wL53_0_2
  exact h1
noncomputable def v53_2 (x0 : (List Int)) : Option Int := (cond (isL (L53_0_2 FU x0 (↑(List.length x0) : Int) (0 : Int))) (some (getL (L53_0_2 FU x0 (↑(List.length x0) : Int) (0 : Int)))) (cond (ok (getR (L53_0_2 FU x0 (↑(List.length x0) : Int) (0 : Int)))) (some ((-1 : Int))) none))
theorem ev53_2 (x0 : (List Int)) : fnBody Try.prog (mkTn base o36 t36 53) (TM.evF Try.prog (mkTn base o36 t36) dOk 40) dOk 40 53 [.sc (.d 3 (.int .i64) (x0)), .sc (.fn 46 0 [none] [.ptr 0 0])] [.box 53 [.fn 42 0 [] []]] = (v53_2 x0).bind fun r => some ([.sc (.int .i64 (r))], [.box 53 [.fn 42 0 [] []]]) := by
  refine Eq.trans (b := (cond (isL (L53_0_2 FU x0 (↑(List.length x0) : Int) (0 : Int))) (some ([.sc (.int .i64 (getL (L53_0_2 FU x0 (↑(List.length x0) : Int) (0 : Int))))], [.box 53 [.fn 42 0 [] []]])) (cond (ok (getR (L53_0_2 FU x0 (↑(List.length x0) : Int) (0 : Int)))) (some ([.sc (.int .i64 ((-1 : Int)))], [.box 53 [.fn 42 0 [] []]])) none))) (by kernel_rfl) ?_
  unfold v53_2
  refine cond_bd ?_ ?_
  · rfl
  · refine cond_bd ?_ ?_
    · rfl
    · rfl
noncomputable def sv53_2 : OrcS := fun al H => dC al fun y1 l2 => dS y1 fun y3 => dD 3 (.int .i64) y3 fun x0 => dC l2 fun y4 l5 => dS y4 fun y6 => dFn 46 0 [none] y6 fun y7 => dC y7 fun y8 l9 => dPtr 0 0 y8 <| dE l9 <| dE l5 <| dHB 53 H fun y11 l10 => dC y11 fun y12 l13 => dFn 42 0 [] y12 fun y14 => dE y14 <| dE l13 <| dE l10 <|  some [(ok (v53_2 x0), [.sc (.int .i64 ((val (v53_2 x0))))], [.box 53 [.fn 42 0 [] []]])]
theorem wv53_2 : NewOrc Try.prog dOk base o36 t36 (53, sv53_2) := by
  intro al H q hq0 rs H2 h2
  have hq : sv53_2 al H = some q := hq0
  clear hq0
  unfold sv53_2 at hq
  replace hq := dC_some hq; obtain ⟨y1, l2, rfl, hq⟩ := hq
  replace hq := dS_some hq; obtain ⟨y3, rfl, hq⟩ := hq
  replace hq := dD_some hq; obtain ⟨x0, rfl, hq⟩ := hq
  replace hq := dC_some hq; obtain ⟨y4, l5, rfl, hq⟩ := hq
  replace hq := dS_some hq; obtain ⟨y6, rfl, hq⟩ := hq
  replace hq := dFn_some hq; obtain ⟨y7, rfl, hq⟩ := hq
  replace hq := dC_some hq; obtain ⟨y8, l9, rfl, hq⟩ := hq
  replace hq := dPtr_some hq; obtain ⟨rfl, hq⟩ := hq
  replace hq := dE_some hq; obtain ⟨rfl, hq⟩ := hq
  replace hq := dE_some hq; obtain ⟨rfl, hq⟩ := hq
  replace hq := dHB_some hq; obtain ⟨y11, l10, rfl, hq⟩ := hq
  replace hq := dC_some hq; obtain ⟨y12, l13, rfl, hq⟩ := hq
  replace hq := dFn_some hq; obtain ⟨y14, rfl, hq⟩ := hq
  replace hq := dE_some hq; obtain ⟨rfl, hq⟩ := hq
  replace hq := dE_some hq; obtain ⟨rfl, hq⟩ := hq
  replace hq := dE_some hq; obtain ⟨rfl, hq⟩ := hq
  cases hq
  obtain ⟨hc0, rfl, rfl⟩ := pickR_one h2
  exact ⟨41, (fn_eq (by kernel_rfl)).trans ((ev53_2 _).trans (bind_of (ok_val hc0)))⟩
noncomputable def o37 : OrcT := (53, sv53_2) :: o36
noncomputable def t37 : TellT := t36
noncomputable abbrev tn37 : FuncId → TAn := mkTn base o37 t37
theorem ok37 : TnOk Try.prog tn37 (mkA base) dOk := by
  have h0 : TnOk Try.prog (mkTn base o36 t36) (mkA base) dOk := ok36
  have h1 := tn_orc h0 h0 (p := (53, sv53_2)) wv53_2
  exact h1
noncomputable def v45_2 (x0 : (List Int)) : Option Bool := (cond (ok (v53_2 x0)) (some (decide (val (v53_2 x0) ≥ (0 : Int)))) none)
theorem ev45_2 (x0 : (List Int)) : fnBody Try.prog (mkTn base o37 t37 45) (TM.evF Try.prog (mkTn base o37 t37) dOk 40) dOk 40 45 [.sc (.d 3 (.int .i64) (x0)), .sc (.fn 46 0 [none] [.ptr 0 0])] [.box 53 [.fn 42 0 [] []]] = (v45_2 x0).bind fun r => some ([.sc (.bool (r))], [.box 53 [.fn 42 0 [] []]]) := by
  refine Eq.trans (b := (cond (ok (v53_2 x0)) (some ([.sc (.bool (decide (val (v53_2 x0) ≥ (0 : Int))))], [.box 53 [.fn 42 0 [] []]])) none)) (by kernel_rfl) ?_
  unfold v45_2
  refine cond_bd ?_ ?_
  · rfl
  · rfl
noncomputable def sv45_2 : OrcS := fun al H => dC al fun y1 l2 => dS y1 fun y3 => dD 3 (.int .i64) y3 fun x0 => dC l2 fun y4 l5 => dS y4 fun y6 => dFn 46 0 [none] y6 fun y7 => dC y7 fun y8 l9 => dPtr 0 0 y8 <| dE l9 <| dE l5 <| dHB 53 H fun y11 l10 => dC y11 fun y12 l13 => dFn 42 0 [] y12 fun y14 => dE y14 <| dE l13 <| dE l10 <|  some [(ok (v45_2 x0), [.sc (.bool ((val (v45_2 x0))))], [.box 53 [.fn 42 0 [] []]])]
theorem wv45_2 : NewOrc Try.prog dOk base o37 t37 (45, sv45_2) := by
  intro al H q hq0 rs H2 h2
  have hq : sv45_2 al H = some q := hq0
  clear hq0
  unfold sv45_2 at hq
  replace hq := dC_some hq; obtain ⟨y1, l2, rfl, hq⟩ := hq
  replace hq := dS_some hq; obtain ⟨y3, rfl, hq⟩ := hq
  replace hq := dD_some hq; obtain ⟨x0, rfl, hq⟩ := hq
  replace hq := dC_some hq; obtain ⟨y4, l5, rfl, hq⟩ := hq
  replace hq := dS_some hq; obtain ⟨y6, rfl, hq⟩ := hq
  replace hq := dFn_some hq; obtain ⟨y7, rfl, hq⟩ := hq
  replace hq := dC_some hq; obtain ⟨y8, l9, rfl, hq⟩ := hq
  replace hq := dPtr_some hq; obtain ⟨rfl, hq⟩ := hq
  replace hq := dE_some hq; obtain ⟨rfl, hq⟩ := hq
  replace hq := dE_some hq; obtain ⟨rfl, hq⟩ := hq
  replace hq := dHB_some hq; obtain ⟨y11, l10, rfl, hq⟩ := hq
  replace hq := dC_some hq; obtain ⟨y12, l13, rfl, hq⟩ := hq
  replace hq := dFn_some hq; obtain ⟨y14, rfl, hq⟩ := hq
  replace hq := dE_some hq; obtain ⟨rfl, hq⟩ := hq
  replace hq := dE_some hq; obtain ⟨rfl, hq⟩ := hq
  replace hq := dE_some hq; obtain ⟨rfl, hq⟩ := hq
  cases hq
  obtain ⟨hc0, rfl, rfl⟩ := pickR_one h2
  exact ⟨41, (fn_eq (by kernel_rfl)).trans ((ev45_2 _).trans (bind_of (ok_val hc0)))⟩
noncomputable def o38 : OrcT := (45, sv45_2) :: o37
noncomputable def t38 : TellT := t37
noncomputable abbrev tn38 : FuncId → TAn := mkTn base o38 t38
theorem ok38 : TnOk Try.prog tn38 (mkA base) dOk := by
  have h0 : TnOk Try.prog (mkTn base o37 t37) (mkA base) dOk := ok37
  have h1 := tn_orc h0 h0 (p := (45, sv45_2)) wv45_2
  exact h1
noncomputable def v32_2 (x0 : (List Int)) : Option Bool := (cond (ok (v45_2 x0)) (some (!val (v45_2 x0))) none)
theorem ev32_2 (x0 : (List Int)) : fnBody Try.prog (mkTn base o38 t38 32) (TM.evF Try.prog (mkTn base o38 t38) dOk 40) dOk 40 32 [.sc (.d 3 (.int .i64) (x0)), .sc (.fn 42 0 [] [])] [] = (v32_2 x0).bind fun r => some ([.sc (.bool (r))], []) := by
  refine Eq.trans (b := (cond (ok (v45_2 x0)) (some ([.sc (.bool (!val (v45_2 x0)))], [])) none)) (by kernel_rfl) ?_
  unfold v32_2
  refine cond_bd ?_ ?_
  · rfl
  · rfl
noncomputable def sv32_2 : OrcS := fun al H => dC al fun y1 l2 => dS y1 fun y3 => dD 3 (.int .i64) y3 fun x0 => dC l2 fun y4 l5 => dS y4 fun y6 => dFn 42 0 [] y6 fun y7 => dE y7 <| dE l5 <| dE H <|  some [(ok (v32_2 x0), [.sc (.bool ((val (v32_2 x0))))], [])]
theorem wv32_2 : NewOrc Try.prog dOk base o38 t38 (32, sv32_2) := by
  intro al H q hq0 rs H2 h2
  have hq : sv32_2 al H = some q := hq0
  clear hq0
  unfold sv32_2 at hq
  replace hq := dC_some hq; obtain ⟨y1, l2, rfl, hq⟩ := hq
  replace hq := dS_some hq; obtain ⟨y3, rfl, hq⟩ := hq
  replace hq := dD_some hq; obtain ⟨x0, rfl, hq⟩ := hq
  replace hq := dC_some hq; obtain ⟨y4, l5, rfl, hq⟩ := hq
  replace hq := dS_some hq; obtain ⟨y6, rfl, hq⟩ := hq
  replace hq := dFn_some hq; obtain ⟨y7, rfl, hq⟩ := hq
  replace hq := dE_some hq; obtain ⟨rfl, hq⟩ := hq
  replace hq := dE_some hq; obtain ⟨rfl, hq⟩ := hq
  replace hq := dE_some hq; obtain ⟨rfl, hq⟩ := hq
  cases hq
  obtain ⟨hc0, rfl, rfl⟩ := pickR_one h2
  exact ⟨41, (fn_eq (by kernel_rfl)).trans ((ev32_2 _).trans (bind_of (ok_val hc0)))⟩
noncomputable def o39 : OrcT := (32, sv32_2) :: o38
noncomputable def t39 : TellT := t38
noncomputable abbrev tn39 : FuncId → TAn := mkTn base o39 t39
theorem ok39 : TnOk Try.prog tn39 (mkA base) dOk := by
  have h0 : TnOk Try.prog (mkTn base o38 t38) (mkA base) dOk := ok38
  have h1 := tn_orc h0 h0 (p := (32, sv32_2)) wv32_2
  exact h1
noncomputable def v26 (x0 : (List Int)) (x1 : (List (List (List Int)))) (x2 : (List (List Int))) (x3 : (List Int)) : Option Bool := (cond ((↑(List.length x2) : Int) != (↑(List.length x1) : Int)) (some (false)) (cond ((↑(List.length x3) : Int) != (↑(List.length x0) : Int)) (some (false)) (cond (isL (L26_0_0 FU x3 x2 (↑(List.length x2) : Int) (0 : Int) x0 x1)) (some (getL (L26_0_0 FU x3 x2 (↑(List.length x2) : Int) (0 : Int) x0 x1))) (cond (ok (getR (L26_0_0 FU x3 x2 (↑(List.length x2) : Int) (0 : Int) x0 x1))) (cond (ok (v32_2 x3)) (some (val (v32_2 x3))) none) none))))
theorem ev26 (x0 : (List Int)) (x1 : (List (List (List Int)))) (x2 : (List (List Int))) (x3 : (List Int)) : fnBody Try.prog (mkTn base o39 t39 26) (TM.evF Try.prog (mkTn base o39 t39) dOk 40) dOk 40 26 [.agg [.d 3 (.int .i64) (x0), .d 26 (.list 22 (.list 3 (.int .i64))) (x1)], .sc (.d 22 (.list 3 (.int .i64)) (x2)), .sc (.d 3 (.int .i64) (x3))] [] = (v26 x0 x1 x2 x3).bind fun r => some ([.sc (.bool (r))], []) := by
  refine Eq.trans (b := (cond ((↑(List.length x2) : Int) != (↑(List.length x1) : Int)) (some ([.sc (.bool (false))], [])) (cond ((↑(List.length x3) : Int) != (↑(List.length x0) : Int)) (some ([.sc (.bool (false))], [])) (cond (isL (L26_0_0 FU x3 x2 (↑(List.length x2) : Int) (0 : Int) x0 x1)) (some ([.sc (.bool (getL (L26_0_0 FU x3 x2 (↑(List.length x2) : Int) (0 : Int) x0 x1)))], [])) (cond (ok (getR (L26_0_0 FU x3 x2 (↑(List.length x2) : Int) (0 : Int) x0 x1))) (cond (ok (v32_2 x3)) (some ([.sc (.bool (val (v32_2 x3)))], [])) none) none))))) (by kernel_rfl) ?_
  unfold v26
  refine cond_bd ?_ ?_
  · rfl
  · refine cond_bd ?_ ?_
    · rfl
    · refine cond_bd ?_ ?_
      · rfl
      · refine cond_bd ?_ ?_
        · refine cond_bd ?_ ?_
          · rfl
          · rfl
        · rfl
noncomputable def sv26 : OrcS := fun al H => dC al fun y1 l2 => dA y1 fun y3 => dC y3 fun y4 l5 => dD 3 (.int .i64) y4 fun x0 => dC l5 fun y6 l7 => dD 26 (.list 22 (.list 3 (.int .i64))) y6 fun x1 => dE l7 <| dC l2 fun y8 l9 => dS y8 fun y10 => dD 22 (.list 3 (.int .i64)) y10 fun x2 => dC l9 fun y11 l12 => dS y11 fun y13 => dD 3 (.int .i64) y13 fun x3 => dE l12 <| dE H <|  some [(ok (v26 x0 x1 x2 x3), [.sc (.bool ((val (v26 x0 x1 x2 x3))))], [])]
theorem wv26 : NewOrc Try.prog dOk base o39 t39 (26, sv26) := by
  intro al H q hq0 rs H2 h2
  have hq : sv26 al H = some q := hq0
  clear hq0
  unfold sv26 at hq
  replace hq := dC_some hq; obtain ⟨y1, l2, rfl, hq⟩ := hq
  replace hq := dA_some hq; obtain ⟨y3, rfl, hq⟩ := hq
  replace hq := dC_some hq; obtain ⟨y4, l5, rfl, hq⟩ := hq
  replace hq := dD_some hq; obtain ⟨x0, rfl, hq⟩ := hq
  replace hq := dC_some hq; obtain ⟨y6, l7, rfl, hq⟩ := hq
  replace hq := dD_some hq; obtain ⟨x1, rfl, hq⟩ := hq
  replace hq := dE_some hq; obtain ⟨rfl, hq⟩ := hq
  replace hq := dC_some hq; obtain ⟨y8, l9, rfl, hq⟩ := hq
  replace hq := dS_some hq; obtain ⟨y10, rfl, hq⟩ := hq
  replace hq := dD_some hq; obtain ⟨x2, rfl, hq⟩ := hq
  replace hq := dC_some hq; obtain ⟨y11, l12, rfl, hq⟩ := hq
  replace hq := dS_some hq; obtain ⟨y13, rfl, hq⟩ := hq
  replace hq := dD_some hq; obtain ⟨x3, rfl, hq⟩ := hq
  replace hq := dE_some hq; obtain ⟨rfl, hq⟩ := hq
  replace hq := dE_some hq; obtain ⟨rfl, hq⟩ := hq
  cases hq
  obtain ⟨hc0, rfl, rfl⟩ := pickR_one h2
  exact ⟨41, (fn_eq (by kernel_rfl)).trans ((ev26 _ _ _ _).trans (bind_of (ok_val hc0)))⟩
noncomputable def o40 : OrcT := (26, sv26) :: o39
noncomputable def t40 : TellT := t39
noncomputable abbrev tn40 : FuncId → TAn := mkTn base o40 t40
theorem ok40 : TnOk Try.prog tn40 (mkA base) dOk := by
  have h0 : TnOk Try.prog (mkTn base o39 t39) (mkA base) dOk := ok39
  have h1 := tn_orc h0 h0 (p := (26, sv26)) wv26
  exact h1
noncomputable def v43 (x0 : (List Int)) (x1 : (List (List (List Int)))) (x2 : (List (List Int))) : Option Unit := (some ())
theorem ev43 (x0 : (List Int)) (x1 : (List (List (List Int)))) (x2 : (List (List Int))) : fnBody Try.prog (mkTn base o40 t40 43) (TM.evF Try.prog (mkTn base o40 t40) dOk 40) dOk 40 43 [.agg [.d 3 (.int .i64) (x0), .d 26 (.list 22 (.list 3 (.int .i64))) (x1)], .sc (.d 22 (.list 3 (.int .i64)) (x2))] [] = (v43 x0 x1 x2).bind fun r => some ([.sc (.fn 52 0 [none, none] [.ptr 0 0, .ptr 1 0])], [.box 25 [.d 3 (.int .i64) (x0), .d 26 (.list 22 (.list 3 (.int .i64))) (x1)], .box 26 [.d 22 (.list 3 (.int .i64)) (x2)]]) := by
  refine Eq.trans (b := (some ([.sc (.fn 52 0 [none, none] [.ptr 0 0, .ptr 1 0])], [.box 25 [.d 3 (.int .i64) (x0), .d 26 (.list 22 (.list 3 (.int .i64))) (x1)], .box 26 [.d 22 (.list 3 (.int .i64)) (x2)]]))) (by kernel_rfl) ?_
  unfold v43
  rfl
noncomputable def sv43 : OrcS := fun al H => dC al fun y1 l2 => dA y1 fun y3 => dC y3 fun y4 l5 => dD 3 (.int .i64) y4 fun x0 => dC l5 fun y6 l7 => dD 26 (.list 22 (.list 3 (.int .i64))) y6 fun x1 => dE l7 <| dC l2 fun y8 l9 => dS y8 fun y10 => dD 22 (.list 3 (.int .i64)) y10 fun x2 => dE l9 <| dE H <|  some [(ok (v43 x0 x1 x2), [.sc (.fn 52 0 [none, none] [.ptr 0 0, .ptr 1 0])], [.box 25 [.d 3 (.int .i64) (x0), .d 26 (.list 22 (.list 3 (.int .i64))) (x1)], .box 26 [.d 22 (.list 3 (.int .i64)) (x2)]])]
theorem wv43 : NewOrc Try.prog dOk base o40 t40 (43, sv43) := by
  intro al H q hq0 rs H2 h2
  have hq : sv43 al H = some q := hq0
  clear hq0
  unfold sv43 at hq
  replace hq := dC_some hq; obtain ⟨y1, l2, rfl, hq⟩ := hq
  replace hq := dA_some hq; obtain ⟨y3, rfl, hq⟩ := hq
  replace hq := dC_some hq; obtain ⟨y4, l5, rfl, hq⟩ := hq
  replace hq := dD_some hq; obtain ⟨x0, rfl, hq⟩ := hq
  replace hq := dC_some hq; obtain ⟨y6, l7, rfl, hq⟩ := hq
  replace hq := dD_some hq; obtain ⟨x1, rfl, hq⟩ := hq
  replace hq := dE_some hq; obtain ⟨rfl, hq⟩ := hq
  replace hq := dC_some hq; obtain ⟨y8, l9, rfl, hq⟩ := hq
  replace hq := dS_some hq; obtain ⟨y10, rfl, hq⟩ := hq
  replace hq := dD_some hq; obtain ⟨x2, rfl, hq⟩ := hq
  replace hq := dE_some hq; obtain ⟨rfl, hq⟩ := hq
  replace hq := dE_some hq; obtain ⟨rfl, hq⟩ := hq
  cases hq
  obtain ⟨hc0, rfl, rfl⟩ := pickR_one h2
  exact ⟨41, (fn_eq (by kernel_rfl)).trans ((ev43 _ _ _).trans (bind_of (ok_val hc0)))⟩
noncomputable def o41 : OrcT := (43, sv43) :: o40
noncomputable def t41 : TellT := t40
noncomputable abbrev tn41 : FuncId → TAn := mkTn base o41 t41
theorem ok41 : TnOk Try.prog tn41 (mkA base) dOk := by
  have h0 : TnOk Try.prog (mkTn base o40 t40) (mkA base) dOk := ok40
  have h1 := tn_orc h0 h0 (p := (43, sv43)) wv43
  exact h1
noncomputable def L27_16_0 : Nat → (List Int) → Int → Int → (List Int) → Int → (List Int) → (List Int) → Option (List Int)
  | 0, _, _, _, _, _, _, _ => none
  | n + 1, x0, x1, x2, x3, x4, x5, x6 => (cond (decide (x2 < x1)) (cond (decide ((0 : Int) ≤ x2)) (cond (decide (x2 < (↑(List.length x0) : Int))) (cond (decide ((0 : Int) ≤ List.getD x0 (Int.toNat x2) (0 : Int))) (cond (decide (List.getD x0 (Int.toNat x2) (0 : Int) < (↑(List.length x5) : Int))) (cond (decide (Int.toNat (List.getD x0 (Int.toNat x2) (0 : Int)) < List.length x5)) (L27_16_0 n (x0) (x1) (IntKind.wrap IntKind.i64 (x2 + (1 : Int))) (x3) (x4) (List.set x5 (Int.toNat (List.getD x0 (Int.toNat x2) (0 : Int))) (IntKind.wrap IntKind.i64 (List.getD x5 (Int.toNat (List.getD x0 (Int.toNat x2) (0 : Int))) (0 : Int) + x4))) (x6)) none) none) none) none) none) (some (x5)))
theorem qL27_16_0 : type_of% @L27_16_0.eq_2 := @L27_16_0.eq_2
noncomputable def xL27_16_0 (x0 : (List Int)) (x1 : Int) (x2 : Int) (x3 : (List Int)) (x4 : Int) (x5 : (List Int)) (x6 : (List Int)) : (List Int) → Ex × CS := fun r => ((.exit 2), { sl := [(10, .l 10 0)], lo := [], h := [.loop 1 none 27 41 106 [(7, .v (.sc (.ptr 1 0))), (8, .v (.sc (.ptr 3 0)))], .box 22 [.g 2], .row 3 (.int .i64) (r : List Int), .box 22 [.g 4], .row 3 (.int .i64) (x6)], n0 := 5, w := false })
theorem bL27_16_0 (k : Nat) (cN : CS → Option (Ex × CS)) (cX : Ex → CS → Option (Ex × CS)) (x0 : (List Int)) (x1 : Int) (x2 : Int) (x3 : (List Int)) (x4 : Int) (x5 : (List Int)) (x6 : (List Int)) : loopBody Try.prog (mkTn base o41 t41 27) (TM.evF Try.prog (mkTn base o41 t41) dOk (k + 40)) dOk (k + 40) (codeAt Try.prog (tn0 27) 27 16) 2 16 { sl := [(7, .v (.sc (.ptr 1 0))), (10, .l 10 0), (42, .v (.sc (.d 3 (.int .i64) (x0)))), (43, .v (.sc (.int .i64 (x1)))), (44, .v (.sc (.int .i64 (x2))))], lo := [(10, [.d 3 (.int .i64) (x3), .int .i64 (x4)])], h := [.loop 1 none 27 41 106 [(7, .v (.sc (.ptr 1 0))), (8, .v (.sc (.ptr 3 0)))], .box 22 [.g 2], .row 3 (.int .i64) (x5), .box 22 [.g 4], .row 3 (.int .i64) (x6)], n0 := 5, w := false } cN cX = (cond (decide (x2 < x1)) (cond (decide ((0 : Int) ≤ x2)) (cond (decide (x2 < (↑(List.length x0) : Int))) (cond (decide ((0 : Int) ≤ List.getD x0 (Int.toNat x2) (0 : Int))) (cond (decide (List.getD x0 (Int.toNat x2) (0 : Int) < (↑(List.length x5) : Int))) (cond (decide (Int.toNat (List.getD x0 (Int.toNat x2) (0 : Int)) < List.length x5)) (cond (decide ((0 : Int) ≤ List.getD x0 (Int.toNat x2) (0 : Int))) (cond (decide (List.getD x0 (Int.toNat x2) (0 : Int) < (↑(List.length x5) : Int))) (cond (decide (Int.toNat (List.getD x0 (Int.toNat x2) (0 : Int)) < List.length x5)) (cN { sl := [(7, .v (.sc (.ptr 1 0))), (10, .l 10 0), (42, .v (.sc (.d 3 (.int .i64) (x0)))), (43, .v (.sc (.int .i64 (x1)))), (44, .v (.sc (.int .i64 (IntKind.wrap IntKind.i64 (x2 + (1 : Int))))))], lo := [(10, [.d 3 (.int .i64) (x3), .int .i64 (x4)])], h := [.loop 1 none 27 41 106 [(7, .v (.sc (.ptr 1 0))), (8, .v (.sc (.ptr 3 0)))], .box 22 [.g 2], .row 3 (.int .i64) (List.set x5 (Int.toNat (List.getD x0 (Int.toNat x2) (0 : Int))) (IntKind.wrap IntKind.i64 (List.getD x5 (Int.toNat (List.getD x0 (Int.toNat x2) (0 : Int))) (0 : Int) + x4)) : List Int), .box 22 [.g 4], .row 3 (.int .i64) (x6)], n0 := 5, w := false }) none) none) none) none) none) none) none) none) (cX (.exit 2) { sl := [(10, .l 10 0)], lo := [], h := [.loop 1 none 27 41 106 [(7, .v (.sc (.ptr 1 0))), (8, .v (.sc (.ptr 3 0)))], .box 22 [.g 2], .row 3 (.int .i64) (x5), .box 22 [.g 4], .row 3 (.int .i64) (x6)], n0 := 5, w := false })) := by kernel_rfl
theorem lL27_16_0 (k m : Nat) : ∀ (n : Nat) (x0 : (List Int)) (x1 : Int) (x2 : Int) (x3 : (List Int)) (x4 : Int) (x5 : (List Int)) (x6 : (List Int)) (r : (List Int)), L27_16_0 n x0 x1 x2 x3 x4 x5 x6 = some r → loopE Try.prog (mkTn base o41 t41 27) (TM.evF Try.prog (mkTn base o41 t41) dOk (k + 40)) dOk (k + 40) (codeAt Try.prog (tn0 27) 27 16) 2 16 (n + m) { sl := [(7, .v (.sc (.ptr 1 0))), (10, .l 10 0), (42, .v (.sc (.d 3 (.int .i64) (x0)))), (43, .v (.sc (.int .i64 (x1)))), (44, .v (.sc (.int .i64 (x2))))], lo := [(10, [.d 3 (.int .i64) (x3), .int .i64 (x4)])], h := [.loop 1 none 27 41 106 [(7, .v (.sc (.ptr 1 0))), (8, .v (.sc (.ptr 3 0)))], .box 22 [.g 2], .row 3 (.int .i64) (x5), .box 22 [.g 4], .row 3 (.int .i64) (x6)], n0 := 5, w := false } = some (xL27_16_0 x0 x1 x2 x3 x4 x5 x6 r) := by
  intro n
  induction n with
  | zero => intro _ _ _ _ _ _ _ r h; cases h
  | succ n ih =>
    intro x0 x1 x2 x3 x4 x5 x6 r
    rw [show n + 1 + m = n + m + 1 by omega, loop_step, bL27_16_0, qL27_16_0]
    cases (decide (x2 < x1)) with
    | true =>
      cases (decide ((0 : Int) ≤ x2)) with
      | true =>
        cases (decide (x2 < (↑(List.length x0) : Int))) with
        | true =>
          cases (decide ((0 : Int) ≤ List.getD x0 (Int.toNat x2) (0 : Int))) with
          | true =>
            cases (decide (List.getD x0 (Int.toNat x2) (0 : Int) < (↑(List.length x5) : Int))) with
            | true =>
              cases (decide (Int.toNat (List.getD x0 (Int.toNat x2) (0 : Int)) < List.length x5)) with
              | true =>
                exact ih _ _ _ _ _ _ _ r
              | false =>
                intro h; cases h
            | false =>
              intro h; cases h
          | false =>
            intro h; cases h
        | false =>
          intro h; cases h
      | false =>
        intro h; cases h
    | false =>
      intro h; cases h; rfl
noncomputable def sL27_16_0 : TellS := fun S => dCS 5 S fun y1 y2 y3 => dSs 7 y1 fun y5 l4 => dPtr 1 0 y5 <| dSt 10 l4 fun y7 l6 => dL 10 0 y7 <| dSs 42 l6 fun y9 l8 => dD 3 (.int .i64) y9 fun x0 => dSI 43 .i64 l8 fun x1 l10 => dSI 44 .i64 l10 fun x2 l11 => dE l11 <| dLo 10 y2 fun y12 l13 => dC y12 fun y14 l15 => dD 3 (.int .i64) y14 fun x3 => dCI .i64 l15 fun x4 l16 => dE l16 <| dE l13 <| dC y3 fun y18 l17 => dLoop 1 none 27 41 106 y18 fun y19 => dSs 7 y19 fun y21 l20 => dPtr 1 0 y21 <| dSs 8 l20 fun y23 l22 => dPtr 3 0 y23 <| dE l22 <| dHB 22 l17 fun y25 l24 => dC y25 fun y26 l27 => dG 2 y26 <| dE l27 <| dHR 3 (.int .i64) l24 fun x5 l28 => dHB 22 l28 fun y30 l29 => dC y30 fun y31 l32 => dG 4 y31 <| dE l32 <| dHR 3 (.int .i64) l29 fun x6 l33 => dE l33 <|  some [(ok (L27_16_0 FU x0 x1 x2 x3 x4 x5 x6), (.exit 2), { sl := [(10, .l 10 0)], lo := [], h := [.loop 1 none 27 41 106 [(7, .v (.sc (.ptr 1 0))), (8, .v (.sc (.ptr 3 0)))], .box 22 [.g 2], .row 3 (.int .i64) ((val (L27_16_0 FU x0 x1 x2 x3 x4 x5 x6)) : List Int), .box 22 [.g 4], .row 3 (.int .i64) (x6)], n0 := 5, w := false })]
theorem wL27_16_0 : NewTell Try.prog dOk base o41 t41 ((27, 16), sL27_16_0) := by
  refine ⟨.loop (codeAt Try.prog (tn0 27) 27 16), 2, by kernel_rfl, ?_⟩
  intro S alts e S' h10 h2
  have h1 : sL27_16_0 S = some alts := h10
  clear h10
  unfold sL27_16_0 at h1
  replace h1 := dCS_some h1; obtain ⟨y1, y2, y3, rfl, h1⟩ := h1
  replace h1 := dSs_some h1; obtain ⟨y5, l4, rfl, h1⟩ := h1
  replace h1 := dPtr_some h1; obtain ⟨rfl, h1⟩ := h1
  replace h1 := dSt_some h1; obtain ⟨y7, l6, rfl, h1⟩ := h1
  replace h1 := dL_some h1; obtain ⟨rfl, h1⟩ := h1
  replace h1 := dSs_some h1; obtain ⟨y9, l8, rfl, h1⟩ := h1
  replace h1 := dD_some h1; obtain ⟨x0, rfl, h1⟩ := h1
  replace h1 := dSI_some h1; obtain ⟨x1, l10, rfl, h1⟩ := h1
  replace h1 := dSI_some h1; obtain ⟨x2, l11, rfl, h1⟩ := h1
  replace h1 := dE_some h1; obtain ⟨rfl, h1⟩ := h1
  replace h1 := dLo_some h1; obtain ⟨y12, l13, rfl, h1⟩ := h1
  replace h1 := dC_some h1; obtain ⟨y14, l15, rfl, h1⟩ := h1
  replace h1 := dD_some h1; obtain ⟨x3, rfl, h1⟩ := h1
  replace h1 := dCI_some h1; obtain ⟨x4, l16, rfl, h1⟩ := h1
  replace h1 := dE_some h1; obtain ⟨rfl, h1⟩ := h1
  replace h1 := dE_some h1; obtain ⟨rfl, h1⟩ := h1
  replace h1 := dC_some h1; obtain ⟨y18, l17, rfl, h1⟩ := h1
  replace h1 := dLoop_some h1; obtain ⟨y19, rfl, h1⟩ := h1
  replace h1 := dSs_some h1; obtain ⟨y21, l20, rfl, h1⟩ := h1
  replace h1 := dPtr_some h1; obtain ⟨rfl, h1⟩ := h1
  replace h1 := dSs_some h1; obtain ⟨y23, l22, rfl, h1⟩ := h1
  replace h1 := dPtr_some h1; obtain ⟨rfl, h1⟩ := h1
  replace h1 := dE_some h1; obtain ⟨rfl, h1⟩ := h1
  replace h1 := dHB_some h1; obtain ⟨y25, l24, rfl, h1⟩ := h1
  replace h1 := dC_some h1; obtain ⟨y26, l27, rfl, h1⟩ := h1
  replace h1 := dG_some h1; obtain ⟨rfl, h1⟩ := h1
  replace h1 := dE_some h1; obtain ⟨rfl, h1⟩ := h1
  replace h1 := dHR_some h1; obtain ⟨x5, l28, rfl, h1⟩ := h1
  replace h1 := dHB_some h1; obtain ⟨y30, l29, rfl, h1⟩ := h1
  replace h1 := dC_some h1; obtain ⟨y31, l32, rfl, h1⟩ := h1
  replace h1 := dG_some h1; obtain ⟨rfl, h1⟩ := h1
  replace h1 := dE_some h1; obtain ⟨rfl, h1⟩ := h1
  replace h1 := dHR_some h1; obtain ⟨x6, l33, rfl, h1⟩ := h1
  replace h1 := dE_some h1; obtain ⟨rfl, h1⟩ := h1
  cases h1
  obtain ⟨hc0, rfl, rfl⟩ := pick_one h2
  exact ⟨FU + 40, (evPiece_loop rfl).trans (lL27_16_0 FU 40 FU _ _ _ _ _ _ _ _ (ok_val hc0))⟩
noncomputable def o42 : OrcT := o41
noncomputable def t42 : TellT := ((27, 16), sL27_16_0) :: t41
noncomputable abbrev tn42 : FuncId → TAn := mkTn base o42 t42
theorem ok42 : TnOk Try.prog tn42 (mkA base) dOk := by
  have h0 : TnOk Try.prog (mkTn base o41 t41) (mkA base) dOk := ok41
  have h1 := tn_tell h0 h0 (p := ((27, 16), sL27_16_0)) wL27_16_0
  exact h1
end Go.Proofs.Ytajodcnnadbjkaa
