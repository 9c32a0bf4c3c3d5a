/- What the machines are told of each function. Written by a program of ours. -/
import Derived.Test.YtchgjjgdgbecmaaB5
import Derived.Test.YtchgjjgdgbecmaaProg
import Derived.KernelRfl
set_option linter.all false
set_option linter.constructorNameAsVariable false
set_option linter.unnecessarySimpa false
set_option linter.unusedSimpArgs false
set_option linter.unusedVariables false
set_option maxRecDepth 1000000
set_option linter.unusedVariables false
set_option maxHeartbeats 4000000
namespace Go.Proofs.Ytchgjjgdgbecmaa
open Go Go.AM Go.TM Go.Proofs
def base : List (FuncId × TAn) := [
  (2, { a := { loc := [], keep := [] }, own := false, crow := [], cuts := [], live := [], coe := [], nt := 1 }),
  (3, { a := { loc := [7, 16, 18, 20, 22, 24, 26, 32, 34], keep := [], keepR := [(0, [1, 2, 3, 4, 5, 6, 7]), (1, [1, 2, 3, 4, 5, 6, 7, 15]), (2, [1, 2, 3, 4, 5, 6, 7, 15, 49]), (3, [14]), (4, [1, 2, 3, 4, 5, 6, 7, 15, 16, 17]), (5, [1, 2, 4, 5, 6, 7, 15, 16, 17, 18, 19]), (6, [1, 2, 4, 5, 6, 7, 15, 16, 17, 18, 19, 20, 21]), (7, [1, 2, 4, 5, 6, 7, 15, 16, 17, 18, 19, 20, 21, 22, 23]), (8, [1, 2, 4, 5, 6, 7, 15, 16, 17, 18, 19, 20, 21, 22, 23, 24, 25]), (9, [1, 2, 7, 15, 16, 17, 18, 19, 20, 21, 22, 23, 24, 25, 26, 27]), (10, [1, 2, 7, 15, 16, 17, 18, 19, 20, 21, 22, 23, 24, 25, 26, 27, 28, 29]), (11, [1, 2, 7, 15, 16, 17, 18, 19, 20, 21, 22, 23, 24, 25, 26, 27, 28, 29, 30, 31]), (12, [1, 2, 7, 15, 16, 17, 18, 19, 20, 21, 22, 23, 24, 25, 26, 27, 28, 29, 30, 31, 32, 33]), (13, [7, 15, 16, 17, 18, 19, 20, 21, 22, 23, 24, 25, 26, 27, 28, 29, 30, 31, 32, 33, 34, 35]), (14, [14])] }, own := false, crow := [], cuts := [4], live := [(36, [1, 2, 3, 4, 5, 6, 7, 15], [7]), (37, [14], []), (38, [14], []), (39, [14], [])], coe := [(36, [((0, 3, 0), 5, true), ((0, 4, 0), 4, true), ((1, 7, 1), 5, true), ((1, 7, 2), 44, true)])], nt := 173 }),
  (4, { a := { loc := [3, 8, 11, 13, 29, 32, 54, 109, 160, 169], keep := [(0, [2, 3, 7, 10, 11, 12, 13, 70, 71], [3, 11, 13])], keepR := [(0, [1, 2, 3]), (1, [1, 2, 3, 7]), (2, [1, 2, 3, 7, 25]), (3, [6]), (4, [1, 2, 3, 7, 8]), (5, [1, 2, 3, 7, 8, 9]), (6, [2, 3, 7, 8, 9, 10]), (7, [2, 3, 7, 8, 9, 10, 11, 12]), (8, [2, 3, 7, 8, 9, 10, 11, 12, 13, 14]), (9, [2, 3, 7, 9, 10, 11, 12, 13, 69]), (10, [6]), (11, [2, 3, 7, 10, 11, 12, 13, 70, 71]), (12, [2, 3, 7, 10, 11, 12, 13, 70, 71, 72]), (13, [2, 3, 7, 10, 11, 12, 13, 15, 70, 71]), (14, [2, 3, 7, 10, 11, 12, 13, 15, 16, 17, 70, 71]), (15, [2, 3, 7, 10, 11, 12, 13, 15, 16, 17, 18, 19, 70, 71]), (16, [2, 3, 7, 10, 11, 12, 13, 15, 16, 70, 71, 112]), (17, [6]), (18, [2, 3, 7, 10, 11, 12, 13, 15, 16, 70, 71, 114]), (19, [2, 3, 7, 10, 11, 12, 13, 15, 16, 20, 21, 70, 71]), (20, [2, 3, 7, 10, 11, 12, 13, 70, 71, 144]), (21, [6]), (22, [2, 3, 7, 10, 11, 12, 13, 70, 71]), (23, [6])] }, own := false, crow := [], cuts := [4, 14, 19], live := [(0, [2, 3, 7, 10, 11, 12, 13, 70, 71], [3, 11, 13]), (2, [2, 3, 7, 11, 12], [3, 11]), (3, [6], []), (36, [1, 2, 3, 7], [3]), (37, [6], []), (38, [6], []), (39, [6], []), (116, [2, 3, 7, 10, 11, 12, 13, 15, 70, 71], [3, 11, 13]), (117, [2, 3, 7, 10, 11, 12, 13, 70, 71], [3, 11, 13]), (118, [2, 3, 7, 10, 11, 12, 13, 70, 71], [3, 11, 13]), (119, [6], []), (156, [2, 3, 7, 10, 11, 12, 13, 15, 16, 70, 71], [3, 11, 13]), (157, [2, 3, 7, 10, 11, 12, 13, 70, 71], [3, 11, 13]), (158, [2, 3, 7, 10, 11, 12, 13, 70, 71], [3, 11, 13]), (159, [6], [])], coe := [(0, [((0, 2, 0), 5, true), ((1, 3, 1), 5, true), ((1, 3, 2), 44, true), ((1, 11, 1), 5, true), ((1, 11, 2), 44, true), ((1, 13, 1), 5, true), ((1, 13, 2), 44, true)]), (36, [((0, 2, 0), 5, true), ((1, 3, 1), 5, true), ((1, 3, 2), 44, true)]), (116, [((0, 2, 0), 5, true), ((1, 3, 1), 5, true), ((1, 3, 2), 44, true), ((1, 11, 1), 5, true), ((1, 11, 2), 44, true), ((1, 13, 1), 5, true), ((1, 13, 2), 44, true)]), (156, [((0, 2, 0), 5, true), ((0, 16, 0), 5, true), ((1, 3, 1), 5, true), ((1, 3, 2), 44, true), ((1, 11, 1), 5, true), ((1, 11, 2), 44, true), ((1, 13, 1), 5, true), ((1, 13, 2), 44, true)])], nt := 176 }),
  (5, { a := { loc := [4, 10, 16, 38, 40, 44, 47, 53, 63, 72, 78, 87, 90, 95, 98], keep := [(0, [4, 9, 64, 65, 66], [4]), (2, [4, 9, 12, 13, 14, 64, 65, 66, 79, 80, 81], [4])], keepR := [(0, [1, 2, 3, 4]), (1, [1, 2, 3, 4, 9]), (2, [1, 2, 3, 4, 9, 20]), (3, [8]), (4, [4, 9, 10, 11]), (5, [4, 9, 10, 31]), (6, [8]), (7, [4, 9, 10, 62]), (8, [8]), (9, [4, 9, 64, 65, 66]), (10, [4, 9, 64, 65, 66, 67]), (11, [4, 9, 12, 13, 64, 65, 66]), (12, [4, 9, 12, 13, 14, 64, 65, 66]), (13, [4, 9, 12, 13, 14, 64, 65, 66, 79, 80, 81]), (14, [4, 9, 12, 13, 14, 64, 65, 66, 79, 80, 81, 82]), (15, [4, 9, 12, 13, 14, 16, 64, 65, 66, 79, 80, 81]), (16, [4, 9, 12, 13, 14, 64, 65, 66, 79, 80, 81]), (17, [4, 9, 12, 13, 14, 64, 65, 66, 79, 80, 81]), (18, [4, 9, 64, 65, 66, 109]), (19, [8]), (20, [4, 9, 64, 65, 66]), (21, [8])] }, own := false, crow := [], cuts := [4, 7, 9, 13, 16], live := [(0, [4, 9, 64, 65, 66], [4]), (2, [9], []), (3, [8], []), (16, [4, 9, 12, 13, 14, 64, 65, 66, 79, 80, 81], [4]), (18, [4, 9, 14, 64, 65, 66], [4]), (19, [8], []), (36, [1, 2, 3, 4, 9], [4]), (37, [8], []), (38, [8], []), (39, [8], []), (60, [4, 9, 10], [4, 10]), (61, [8], []), (62, [8], []), (63, [8], []), (76, [4, 9, 10], [4, 10]), (77, [8], []), (78, [8], []), (79, [8], []), (108, [4, 9, 12, 13, 14, 64, 65, 66], [4]), (109, [4, 9, 64, 65, 66], [4]), (110, [4, 9, 64, 65, 66], [4]), (111, [8], []), (132, [4, 9, 12, 13, 14, 16, 64, 65, 66, 79, 80, 81], [4, 16]), (133, [4, 9, 12, 13, 14, 64, 65, 66, 79, 80, 81], [4]), (134, [4, 9, 12, 13, 14, 64, 65, 66, 79, 80, 81], [4]), (135, [8], [])], coe := [(0, [((0, 64, 0), 5, true), ((1, 4, 1), 5, true), ((1, 4, 2), 44, true)]), (16, [((0, 64, 0), 5, true), ((0, 79, 0), 44, true), ((1, 4, 1), 5, true), ((1, 4, 2), 44, true)]), (36, [((0, 1, 0), 4, true), ((1, 4, 1), 5, true), ((1, 4, 2), 44, true)]), (60, [((1, 4, 1), 5, true), ((1, 4, 2), 44, true), ((1, 10, 1), 5, true), ((1, 10, 2), 44, true)]), (76, [((1, 4, 1), 5, true), ((1, 4, 2), 44, true), ((1, 10, 1), 5, true), ((1, 10, 2), 44, true)]), (108, [((0, 64, 0), 5, true), ((1, 4, 1), 5, true), ((1, 4, 2), 44, true)]), (132, [((0, 64, 0), 5, true), ((0, 79, 0), 44, true), ((1, 4, 1), 5, true), ((1, 4, 2), 44, true), ((1, 16, 1), 5, true)])], nt := 112 }),
  (6, { a := { loc := [2, 10, 12, 14, 16, 18, 20, 26, 58, 81, 83], keep := [(0, [1, 2, 5, 6, 7, 8, 34, 35], [2])], keepR := [(0, [1, 2]), (1, [1, 2, 5]), (2, [1, 2, 5, 24]), (3, [4]), (4, [1, 2, 5, 6]), (5, [1, 2, 5, 6, 7, 8]), (6, [1, 2, 5, 6, 7, 8, 34, 35]), (7, [1, 2, 5, 6, 7, 8, 34, 35, 36]), (8, [1, 2, 5, 6, 7, 8, 9, 34, 35]), (9, [1, 2, 5, 6, 7, 8, 34, 35]), (10, [1, 2, 5, 6, 7, 8, 34, 35]), (11, [1, 2, 5, 6, 7, 8, 10, 11]), (12, [1, 2, 5, 6, 7, 8, 10, 11, 12, 13]), (13, [1, 2, 5, 6, 7, 10, 11, 12, 13, 14, 15]), (14, [1, 2, 5, 6, 7, 10, 11, 12, 13, 14, 15, 16, 17]), (15, [2, 5, 10, 11, 12, 13, 14, 15, 16, 17, 18, 19]), (16, [5, 10, 11, 12, 13, 14, 15, 16, 17, 18, 19, 20]), (17, [4])], hst := [40] }, own := false, crow := [], cuts := [4, 12, 16], live := [(0, [1, 2, 5, 6, 7, 8, 34, 35], [2]), (2, [1, 2, 5, 6, 7, 8], [2]), (3, [4], []), (36, [1, 2, 5], [2]), (37, [4], []), (38, [4], []), (39, [4], []), (100, [1, 2, 5, 6, 7, 8, 10, 11], [2, 10]), (101, [4], []), (102, [4], []), (103, [4], []), (132, [2, 5, 10, 11, 12, 13, 14, 15, 16, 17, 18, 19], [2, 10, 12, 14, 16, 18]), (133, [4], []), (134, [4], []), (135, [4], [])], coe := [(0, [((0, 7, 0), 4, true), ((0, 8, 0), 4, true), ((1, 2, 1), 5, true), ((1, 2, 2), 44, true)]), (36, [((1, 2, 1), 5, true), ((1, 2, 2), 44, true)]), (100, [((0, 7, 0), 4, false), ((0, 8, 0), 4, false), ((1, 2, 1), 5, true), ((1, 2, 2), 44, true), ((1, 10, 1), 5, true), ((1, 10, 2), 44, true)]), (132, [((1, 2, 1), 5, true), ((1, 2, 2), 44, true), ((1, 10, 1), 5, false), ((1, 10, 2), 44, false), ((1, 12, 1), 5, true), ((1, 12, 2), 44, true), ((1, 14, 1), 5, true), ((1, 14, 2), 44, true), ((1, 16, 1), 5, true), ((1, 16, 2), 44, true), ((1, 18, 1), 5, true), ((1, 18, 2), 44, true)])], nt := 127 }),
  (7, { a := { loc := [3, 10, 12, 14, 16, 18, 20, 23, 56, 62, 109, 112, 116, 122, 47], keep := [], keepR := [(0, [1, 2, 3]), (1, [1, 2, 3, 7]), (2, [1, 2, 3, 7, 8]), (3, [1, 2, 3, 7, 8, 38]), (4, [6]), (5, [1, 3, 7, 9]), (6, [1, 3, 7, 9, 10]), (7, [1, 3, 7, 9, 10, 11]), (8, [1, 3, 7, 9, 10, 11, 12, 13]), (9, [1, 3, 7, 9, 10, 11, 12, 13, 69]), (10, [3, 7, 9, 11, 12, 13, 75]), (11, [6]), (12, [3, 7, 11, 12, 13]), (13, [7, 12, 13, 14, 15]), (14, [6]), (15, [3, 7, 9, 10, 11, 12, 13]), (16, [3, 7, 10, 11, 12, 13]), (17, [3, 7, 10, 12, 13, 16, 17]), (18, [7, 10, 12, 13, 16, 17, 18, 19]), (19, [7, 12, 13, 16, 17, 18, 19, 20, 21]), (20, [6])], hst := [88, 127, 128, 143, 144] }, own := false, crow := [], cuts := [6, 13, 17], live := [(52, [1, 3, 7, 9], [3]), (53, [6], []), (54, [6], []), (55, [6], []), (108, [3, 7, 11, 12, 13], [3, 12]), (109, [3, 7, 9, 10, 11, 12, 13], [3, 10, 12]), (110, [3, 7, 9, 10, 11, 12, 13], [3, 10, 12]), (111, [6], []), (140, [3, 7, 10, 11, 12, 13], [3, 10, 12]), (141, [6], []), (142, [6], []), (143, [6], [])], coe := [(52, [((0, 1, 0), 4, true), ((1, 3, 1), 5, true), ((1, 3, 2), 44, true)]), (108, [((0, 11, 0), 4, true), ((1, 3, 1), 5, true), ((1, 3, 2), 44, true), ((1, 12, 1), 5, true), ((1, 12, 2), 44, true)]), (140, [((0, 11, 0), 4, true), ((1, 3, 1), 5, true), ((1, 3, 2), 44, true), ((1, 10, 1), 5, true), ((1, 10, 2), 44, true), ((1, 12, 1), 5, true), ((1, 12, 2), 44, true)])], nt := 188 }),
  (8, { a := { loc := [3, 11, 13, 15, 20, 39, 72, 75, 81, 84, 89, 95, 101, 107, 109, 120, 125, 43], keep := [(0, [3, 7, 9, 11, 13, 15, 97, 98], [3, 11, 13, 15])], keepR := [(0, [1, 2, 3]), (1, [1, 2, 3, 7]), (2, [1, 2, 3, 7, 8]), (3, [1, 2, 3, 7, 8, 35]), (4, [6]), (5, [1, 3, 7, 8, 9]), (6, [1, 3, 7, 8, 9, 10]), (7, [1, 3, 7, 8, 9, 10]), (8, [1, 3, 7, 8, 9, 11, 12]), (9, [3, 7, 8, 9, 11, 12, 13, 14]), (10, [3, 7, 8, 9, 11, 13, 88]), (11, [6]), (12, [3, 7, 9, 11, 13, 15]), (13, [3, 7, 9, 11, 13, 15, 97, 98]), (14, [3, 7, 9, 11, 13, 15, 97, 98, 99]), (15, [3, 7, 9, 11, 13, 15, 16, 97, 98]), (16, [3, 7, 9, 11, 13, 15, 16, 17, 97, 98]), (17, [3, 7, 9, 11, 13, 15, 16, 17, 18, 97, 98]), (18, [3, 7, 9, 11, 13, 15, 16, 17, 18, 97, 98, 119]), (19, [3, 7, 9, 11, 13, 15, 16, 17, 97, 98]), (20, [3, 7, 9, 11, 13, 15, 97, 98, 131]), (21, [6]), (22, [3, 7, 9, 11, 13, 15, 97, 98]), (23, [6])], hst := [49] }, own := false, crow := [], cuts := [6, 13, 18], live := [(0, [3, 7, 9, 11, 13, 15, 97, 98], [3, 11, 13, 15]), (2, [7], []), (3, [6], []), (52, [1, 3, 7, 8, 9], [3]), (53, [6], []), (54, [6], []), (55, [6], []), (108, [3, 7, 9, 11, 13, 15], [3, 11, 13, 15]), (109, [6], []), (110, [6], []), (111, [6], []), (148, [3, 7, 9, 11, 13, 15, 16, 17, 18, 97, 98], [3, 11, 13, 15]), (149, [3, 7, 9, 11, 13, 15, 16, 17, 97, 98], [3, 11, 13, 15]), (150, [3, 7, 9, 11, 13, 15, 16, 17, 97, 98], [3, 11, 13, 15]), (151, [6], [])], coe := [(0, [((1, 3, 1), 5, true), ((1, 3, 2), 44, true), ((1, 11, 1), 5, true), ((1, 11, 2), 44, true), ((1, 13, 1), 5, true), ((1, 13, 2), 44, true), ((1, 15, 1), 5, true)]), (52, [((0, 1, 0), 4, true), ((1, 3, 1), 5, true), ((1, 3, 2), 44, true)]), (108, [((1, 3, 1), 5, true), ((1, 3, 2), 44, true), ((1, 11, 1), 5, true), ((1, 11, 2), 44, true), ((1, 13, 1), 5, true), ((1, 13, 2), 44, true), ((1, 15, 1), 5, true)]), (148, [((1, 3, 1), 5, true), ((1, 3, 2), 44, true), ((1, 11, 1), 5, true), ((1, 11, 2), 44, true), ((1, 13, 1), 5, true), ((1, 13, 2), 44, true), ((1, 15, 1), 5, true)])], nt := 134 }),
  (9, { a := { loc := [7, 18, 20, 22, 27, 29, 43, 46], keep := [(0, [2, 4, 5, 6, 15, 16, 17, 22, 83, 84, 85], [22])], keepR := [(0, [1, 2, 3, 4, 5, 6, 7]), (1, [1, 2, 3, 4, 5, 6, 7, 15]), (2, [1, 2, 3, 4, 5, 6, 7, 15, 41]), (3, [14]), (4, [1, 2, 3, 4, 5, 6, 7, 15, 16]), (5, [2, 3, 4, 5, 6, 7, 15, 16, 17]), (6, [2, 3, 4, 5, 6, 15, 16, 17, 18, 19]), (7, [2, 3, 4, 5, 6, 15, 16, 17, 19, 20, 21]), (8, [2, 3, 4, 5, 6, 15, 16, 17, 19, 21, 22, 23]), (9, [2, 3, 4, 5, 6, 15, 16, 17, 19, 22, 23, 75]), (10, [14]), (11, [2, 3, 4, 5, 6, 15, 16, 17, 22, 82]), (12, [14]), (13, [2, 4, 5, 6, 15, 16, 17, 22, 83, 84, 85]), (14, [2, 4, 5, 6, 15, 16, 17, 22, 83, 84, 85, 86]), (15, [2, 4, 5, 6, 15, 16, 17, 22, 24, 25, 83, 84, 85]), (16, [2, 4, 5, 6, 15, 16, 17, 22, 25, 26, 83, 84, 85]), (17, [2, 4, 5, 6, 15, 16, 17, 22, 25, 26, 83, 84, 85, 95]), (18, [2, 4, 5, 6, 15, 16, 17, 22, 27, 28, 83, 84, 85]), (19, [2, 4, 5, 6, 15, 16, 17, 22, 27, 83, 84, 85, 104]), (20, [2, 4, 5, 6, 15, 16, 17, 22, 83, 84, 85]), (21, [2, 4, 5, 6, 15, 16, 17, 22, 83, 84, 85]), (22, [2, 15, 17, 29, 30]), (23, [2, 15, 17, 29, 116]), (24, [14]), (25, [2, 15, 31, 32]), (26, [14])] }, own := false, crow := [], cuts := [4, 13, 25], live := [(0, [2, 4, 5, 6, 15, 16, 17, 22, 83, 84, 85], [22]), (2, [2, 4, 5, 6, 15, 17, 22], [22]), (3, [14], []), (36, [1, 2, 3, 4, 5, 6, 7, 15], [7]), (37, [14], []), (38, [14], []), (39, [14], []), (108, [2, 3, 4, 5, 6, 15, 16, 17, 22], [22]), (109, [14], []), (110, [14], []), (111, [14], []), (204, [2, 15, 17, 29], [29]), (205, [14], []), (206, [14], []), (207, [14], [])], coe := [(0, [((0, 2, 0), 5, true), ((0, 4, 0), 4, true), ((0, 83, 0), 22, true), ((1, 22, 1), 5, true), ((1, 22, 2), 44, true)]), (36, [((0, 2, 0), 5, true), ((0, 3, 0), 22, true), ((0, 4, 0), 4, true), ((1, 7, 1), 5, true), ((1, 7, 2), 44, true)]), (108, [((0, 2, 0), 5, true), ((0, 3, 0), 22, true), ((0, 4, 0), 4, true), ((1, 22, 1), 5, true), ((1, 22, 2), 44, true)]), (204, [((0, 2, 0), 5, true), ((1, 29, 1), 5, true), ((1, 29, 2), 44, true)])], nt := 134 }),
  (10, { a := { loc := [1, 3, 7, 9, 11, 13, 15, 99, 105, 111], keep := [] }, own := false, crow := [], cuts := [], live := [], coe := [], nt := 125 }),
  (11, { a := { loc := [1, 5, 11, 19, 24], keep := [(0, [1, 3], [1])] }, own := false, crow := [], cuts := [], live := [(0, [1, 3], [1]), (2, [1], [1]), (3, [2], [])], coe := [(0, [((1, 1, 1), 5, true), ((1, 1, 2), 44, true)])], nt := 29 }),
  (12, { a := { loc := [3, 6, 8, 10, 24, 30, 35, 37, 41, 54, 56, 58, 64, 47, 62], keep := [(1, [6, 8, 48, 49, 50], [6, 8])] }, own := false, crow := [], cuts := [], live := [(8, [6, 8, 48, 49, 50], [6, 8]), (10, [6, 8], [6, 8]), (11, [6, 7], [6])], coe := [(8, [((0, 48, 0), 44, true), ((1, 6, 1), 5, true), ((1, 6, 2), 44, true), ((1, 8, 1), 5, true), ((1, 8, 2), 44, true)])], nt := 67 }),
  (13, { a := { loc := [3, 6, 8, 18, 21, 29, 34, 41, 50, 44, 48], keep := [] }, own := false, crow := [], cuts := [], live := [], coe := [], nt := 52 }),
  (14, { a := { loc := [1, 2, 8, 11], keep := [] }, own := false, crow := [], cuts := [], live := [], coe := [], nt := 15 }),
  (15, { a := { loc := [1, 2, 6], keep := [(0, [1, 2, 4, 5], [1, 2])], hst := [18] }, own := false, crow := [], cuts := [], live := [(0, [1, 2, 4, 5], [1, 2]), (2, [1, 2, 4], [1, 2]), (3, [2, 3], [2])], coe := [(0, [((0, 4, 0), 4, true), ((1, 1, 1), 5, true), ((1, 1, 2), 44, true), ((1, 2, 1), 5, true), ((1, 2, 2), 44, true)])], nt := 24 }),
  (16, { a := { loc := [4, 8, 12, 19, 40, 45, 58, 60, 78, 66, 75], keep := [(0, [1, 2, 3, 4, 8, 10, 46, 47, 48], [4, 8])] }, own := false, crow := [], cuts := [], live := [(0, [1, 2, 3, 4, 8, 10, 46, 47, 48], [4, 8]), (2, [4, 8, 10], [4, 8]), (3, [8, 9], [8])], coe := [(0, [((0, 1, 0), 4, true), ((0, 10, 0), 44, true), ((0, 46, 0), 44, true), ((1, 4, 1), 5, true), ((1, 4, 2), 44, true), ((1, 8, 1), 5, true), ((1, 8, 2), 44, true)])], nt := 84 }),
  (17, { a := { loc := [4, 8, 10, 13, 21, 42, 47, 50, 55, 65, 71, 81, 83, 85, 90, 49], keep := [(0, [1, 2, 3, 4, 8, 10, 11], [4, 8, 10]), (2, [1, 2, 3, 4, 8, 10, 11, 12, 13, 14], [4, 8, 10, 13])], hst := [95] }, own := false, crow := [], cuts := [], live := [(0, [1, 2, 3, 4, 8, 10, 11], [4, 8, 10]), (2, [8, 10], [8, 10]), (3, [8, 9], [8]), (16, [1, 2, 3, 4, 8, 10, 11, 12, 13, 14], [4, 8, 10, 13]), (18, [1, 2, 3, 4, 8, 10, 11], [4, 8, 10]), (19, [8, 9], [8])], coe := [(0, [((0, 1, 0), 4, true), ((1, 4, 1), 5, true), ((1, 4, 2), 44, true), ((1, 8, 1), 5, true), ((1, 8, 2), 44, true), ((1, 10, 1), 5, true), ((1, 10, 2), 44, true)]), (16, [((0, 1, 0), 4, true), ((1, 4, 1), 5, true), ((1, 4, 2), 44, true), ((1, 8, 1), 5, true), ((1, 8, 2), 44, true), ((1, 10, 1), 5, true), ((1, 10, 2), 44, true), ((1, 13, 1), 5, true)])], nt := 97 }),
  (18, { a := { loc := [2, 17, 22, 27], keep := [] }, own := false, crow := [], cuts := [], live := [], coe := [], nt := 32 }),
  (19, { a := { loc := [2, 6, 21, 24, 30, 33, 38, 29], keep := [] }, own := false, crow := [], cuts := [], live := [], coe := [], nt := 43 }),
  (20, { a := { loc := [4], keep := [] }, own := false, crow := [], cuts := [], live := [], coe := [], nt := 29 }),
  (21, { a := { loc := [4], keep := [] }, own := false, crow := [], cuts := [], live := [], coe := [], nt := 29 }),
  (22, { a := { loc := [2, 3, 6, 8, 12, 14, 20, 23, 29, 35, 41, 49, 55], keep := [(0, [2, 3, 5], [2, 3])] }, own := false, crow := [], cuts := [], live := [(0, [2, 3, 5], [2, 3]), (2, [], []), (3, [4], [])], coe := [(0, [((1, 2, 1), 5, true), ((1, 2, 2), 44, true), ((1, 3, 1), 5, true), ((1, 3, 2), 44, true)])], nt := 64 }),
  (23, { a := { loc := [], keep := [(0, [0, 1, 5], [])] }, own := false, crow := [], cuts := [], live := [(0, [0, 1, 5], []), (2, [], []), (3, [4], [])], coe := [(0, [((0, 0, 0), 5, true), ((0, 1, 0), 5, true)])], nt := 26 }),
  (24, { a := { loc := [], keep := [] }, own := false, crow := [], cuts := [], live := [], coe := [], nt := 45 }),
  (25, { a := { loc := [1, 5, 6, 9, 13, 19, 29, 35, 41, 47, 52, 56, 59, 65, 68], keep := [(0, [1, 3, 4], [1])] }, own := false, crow := [], cuts := [], live := [(0, [1, 3, 4], [1]), (2, [], []), (3, [2], [])], coe := [(0, [((1, 1, 1), 5, true), ((1, 1, 2), 44, true)])], nt := 72 }),
  (26, { a := { loc := [1], keep := [] }, own := false, crow := [], cuts := [], live := [], coe := [], nt := 9 }),
  (27, { a := { loc := [1, 2, 3, 5, 8, 13, 19, 21, 28, 38, 7, 27, 36], keep := [(0, [1, 2, 3, 4], [1, 2, 3])] }, own := true, crow := [], cuts := [], live := [(0, [1, 2, 3, 4], [1, 2, 3]), (2, [2, 3], [2, 3]), (3, [2], [2])], coe := [(0, [((1, 1, 1), 5, true), ((1, 1, 2), 44, true), ((1, 2, 1), 5, true), ((1, 2, 2), 44, true), ((1, 3, 1), 5, true), ((1, 3, 2), 44, true)])], nt := 40 }),
  (28, { a := { loc := [2, 5, 15, 18, 23, 26, 31], keep := [] }, own := false, crow := [], cuts := [], live := [], coe := [], nt := 35 }),
  (29, { a := { loc := [2, 4, 8], keep := [(0, [2, 4, 10, 11, 12], [2, 4])] }, own := false, crow := [], cuts := [], live := [(0, [2, 4, 10, 11, 12], [2, 4]), (2, [2, 4], [2, 4]), (3, [4, 5], [4])], coe := [(0, [((0, 10, 0), 54, true), ((1, 2, 1), 5, true), ((1, 2, 2), 44, true), ((1, 4, 1), 5, true), ((1, 4, 2), 44, true)])], nt := 31 }),
  (30, { a := { loc := [2, 9, 12], keep := [] }, own := false, crow := [], cuts := [], live := [], coe := [], nt := 17 }),
  (31, { a := { loc := [5], keep := [] }, own := true, crow := [], cuts := [], live := [], coe := [], nt := 8 }),
  (32, { a := { loc := [5], keep := [] }, own := true, crow := [], cuts := [], live := [], coe := [], nt := 8 }),
  (33, { a := { loc := [2, 7, 10, 15, 24, 26, 29, 32, 40], keep := [(0, [2, 5, 18, 19, 20], [2])] }, own := false, crow := [], cuts := [], live := [(0, [2, 5, 18, 19, 20], [2]), (2, [5], []), (3, [4], [])], coe := [(0, [((0, 5, 0), 5, true), ((0, 18, 0), 44, true), ((1, 2, 1), 5, true), ((1, 2, 2), 44, true)])], nt := 45 }),
  (34, { a := { loc := [2, 5, 10], keep := [] }, own := false, crow := [], cuts := [], live := [], coe := [], nt := 17 }),
  (35, { a := { loc := [], keep := [] }, own := false, crow := [], cuts := [], live := [], coe := [], nt := 9 }),
  (36, { a := { loc := [], keep := [(0, [0, 1, 7, 8], [])] }, own := false, crow := [], cuts := [], live := [(0, [0, 1, 7, 8], []), (2, [], []), (3, [4], [])], coe := [(0, [((0, 0, 0), 44, true)])], nt := 19 })]
theorem names : plainNames Try.prog = true := by kernel_rfl
theorem mixed : Try.prog.follows .mixedOrders = true := by kernel_rfl
/-- bytes.Clone -/
def sC31 : OrcS := fun al H => match al, H with
  | [.sc (.d 5 (.int .u8) x)], [] => some (decide (List.length x ≤ most), [.sc (.g 0)], [.row 5 (.int .u8) x])
  | _, _ => none
theorem wC31 : ∀ al H q, sC31 al H = some q → q.1 = true → CallOk Try.prog (mkA base) dOk 31 al H q.2.1 q.2.2 := by
  intro al H q hq h1
  unfold sC31 at hq
  split at hq
  · cases hq
    refine clone_call (k := 2) (by kernel_rfl) (by kernel_rfl) ?_ ?_ ?_ _ (of_decide_eq_true h1)
    · intro b h; cases b <;> kernel_rfl
    · intro id off h; kernel_rfl
    · intro id off n h; kernel_rfl
  · cases hq
/-- api.Write] -/
def sC32 : OrcS := fun al H => match al, H with
  | [.sc (.d 44 (.pair (.int .i64) (.list 5 (.int .u8))) x)], [] => some (decide (List.length x ≤ most), [.sc (.g 0)], [.row 44 (.pair (.int .i64) (.list 5 (.int .u8))) x])
  | _, _ => none
theorem wC32 : ∀ al H q, sC32 al H = some q → q.1 = true → CallOk Try.prog (mkA base) dOk 32 al H q.2.1 q.2.2 := by
  intro al H q hq h1
  unfold sC32 at hq
  split at hq
  · cases hq
    refine clone_call (k := 2) (by kernel_rfl) (by kernel_rfl) ?_ ?_ ?_ _ (of_decide_eq_true h1)
    · intro b h; cases b <;> kernel_rfl
    · intro id off h; kernel_rfl
    · intro id off n h; kernel_rfl
  · cases hq
def o0 : OrcT := [(31, sC31), (32, sC32)]
def t0 : TellT := []
abbrev tn0 : FuncId → TAn := mkTn base o0 t0
theorem ok0 : TnOk Try.prog tn0 (mkA base) dOk := (tn_orcA (tn_orcA tn_nil (p := (32, sC32)) wC32) (p := (31, sC31)) wC31)
end Go.Proofs.Ytchgjjgdgbecmaa
set_option maxRecDepth 1000000
set_option linter.unusedVariables false
set_option maxHeartbeats 4000000
namespace Go.Proofs.Ytchgjjgdgbecmaa
open Go Go.AM Go.TM Go.Proofs
/-- disk.New -/
def v20 (x0 : Int) (x1 : Int) : Option (Int × (List Int) × (List (Int × (List Int))) × Int) := (cond (decide (x0 < (1 : Int))) (some ((0 : Int), [], [], (1 : Int))) (cond (decide (x0 > (512 : Int))) (some ((0 : Int), [], [], (1 : Int))) (cond (decide (x1 < (1 : Int))) (some ((0 : Int), [], [], (1 : Int))) (cond (decide (x0 ≠ (0 : Int))) (cond (decide (x1 > IntKind.wrap IntKind.i64 (Int.tdiv (65536 : Int) x0))) (some ((0 : Int), [], [], (1 : Int))) (cond (decide ((0 : Int) ≤ IntKind.wrap IntKind.i64 (x0 * x1))) (cond (decide (IntKind.wrap IntKind.i64 (x0 * x1) ≤ IntKind.wrap IntKind.i64 (x0 * x1))) (cond (decide (IntKind.wrap IntKind.i64 (x0 * x1) ≤ (↑(nat_lit 2147483648) : Int))) (some (x0, List.replicate (Int.toNat (IntKind.wrap IntKind.i64 (x0 * x1))) (0 : Int), [], (0 : Int))) none) none) none)) none))))
theorem ev20 (x0 : Int) (x1 : Int) : fnBody Try.prog (mkTn base o0 t0 20) (TM.evF Try.prog (mkTn base o0 t0) dOk 40) dOk 40 20 [.sc (.int .i64 (x0)), .sc (.int .i64 (x1))] [] = (v20 x0 x1).bind fun r => some ([.agg [.int .i64 (r.1), .d 5 (.int .u8) (r.2.1), .d 44 (.pair (.int .i64) (.list 5 (.int .u8))) (r.2.2.1)], .sc (.int .i64 (r.2.2.2))], []) := by
  have h : fnBody Try.prog (mkTn base o0 t0 20) (TM.evF Try.prog (mkTn base o0 t0) dOk 40) dOk 40 20 [.sc (.int .i64 (x0)), .sc (.int .i64 (x1))] [] = (cond (decide (x0 < (1 : Int))) (some ([.agg [.int .i64 ((0 : Int)), .d 5 (.int .u8) ([]), .d 44 (.pair (.int .i64) (.list 5 (.int .u8))) ([])], .sc (.int .i64 ((1 : Int)))], [])) (cond (decide (x0 > (512 : Int))) (some ([.agg [.int .i64 ((0 : Int)), .d 5 (.int .u8) ([]), .d 44 (.pair (.int .i64) (.list 5 (.int .u8))) ([])], .sc (.int .i64 ((1 : Int)))], [])) (cond (decide (x1 < (1 : Int))) (some ([.agg [.int .i64 ((0 : Int)), .d 5 (.int .u8) ([]), .d 44 (.pair (.int .i64) (.list 5 (.int .u8))) ([])], .sc (.int .i64 ((1 : Int)))], [])) (cond (decide (x0 ≠ (0 : Int))) (cond (decide (x1 > IntKind.wrap IntKind.i64 (Int.tdiv (65536 : Int) x0))) (some ([.agg [.int .i64 ((0 : Int)), .d 5 (.int .u8) ([]), .d 44 (.pair (.int .i64) (.list 5 (.int .u8))) ([])], .sc (.int .i64 ((1 : Int)))], [])) (cond (decide ((0 : Int) ≤ IntKind.wrap IntKind.i64 (x0 * x1))) (cond (decide (IntKind.wrap IntKind.i64 (x0 * x1) ≤ IntKind.wrap IntKind.i64 (x0 * x1))) (cond (decide (IntKind.wrap IntKind.i64 (x0 * x1) ≤ (↑(nat_lit 2147483648) : Int))) (some ([.agg [.int .i64 (x0), .d 5 (.int .u8) (List.replicate (Int.toNat (IntKind.wrap IntKind.i64 (x0 * x1))) (0 : Int)), .d 44 (.pair (.int .i64) (.list 5 (.int .u8))) ([])], .sc (.int .i64 ((0 : Int)))], [])) none) none) none)) none)))) := by kernel_rfl
  rw [h]
  unfold v20
  cases (decide (x0 < (1 : Int))) with
  | true =>
    rfl
  | false =>
    cases (decide (x0 > (512 : Int))) with
    | true =>
      rfl
    | false =>
      cases (decide (x1 < (1 : Int))) with
      | true =>
        rfl
      | false =>
        cases (decide (x0 ≠ (0 : Int))) with
        | true =>
          cases (decide (x1 > IntKind.wrap IntKind.i64 (Int.tdiv (65536 : Int) x0))) with
          | true =>
            rfl
          | false =>
            cases (decide ((0 : Int) ≤ IntKind.wrap IntKind.i64 (x0 * x1))) with
            | true =>
              cases (decide (IntKind.wrap IntKind.i64 (x0 * x1) ≤ IntKind.wrap IntKind.i64 (x0 * x1))) with
              | true =>
                cases (decide (IntKind.wrap IntKind.i64 (x0 * x1) ≤ (↑(nat_lit 2147483648) : Int))) with
                | true =>
                  rfl
                | false =>
                  rfl
              | false =>
                rfl
            | false =>
              rfl
        | false =>
          rfl
def sv20 : OrcS := fun al H => match al, H with
  | [.sc (.int .i64 (x0)), .sc (.int .i64 (x1))], [] => some (ok (v20 x0 x1), [.agg [.int .i64 ((val (v20 x0 x1)).1), .d 5 (.int .u8) ((val (v20 x0 x1)).2.1), .d 44 (.pair (.int .i64) (.list 5 (.int .u8))) ((val (v20 x0 x1)).2.2.1)], .sc (.int .i64 ((val (v20 x0 x1)).2.2.2))], [])
  | _, _ => none
theorem wv20 : NewOrc Try.prog dOk base o0 t0 (20, sv20) := by
  intro al H q hq hq1
  have hq : sv20 al H = some q := hq
  unfold sv20 at hq
  split at hq
  · cases hq
    exact ⟨41, (ev20 _ _).trans (ok_bind hq1)⟩
  · cases hq
/-- queuelabref35.New -/
def v21 (x0 : Int) (x1 : Int) : Option (Int × (List Int) × (List (Int × (List Int))) × Int) := (cond (decide (x0 < (1 : Int))) (some ((0 : Int), [], [], (1 : Int))) (cond (decide (x0 > (512 : Int))) (some ((0 : Int), [], [], (1 : Int))) (cond (decide (x1 < (1 : Int))) (some ((0 : Int), [], [], (1 : Int))) (cond (decide (x0 ≠ (0 : Int))) (cond (decide (x1 > IntKind.wrap IntKind.i64 (Int.tdiv (65536 : Int) x0))) (some ((0 : Int), [], [], (1 : Int))) (cond (decide ((0 : Int) ≤ IntKind.wrap IntKind.i64 (x0 * x1))) (cond (decide (IntKind.wrap IntKind.i64 (x0 * x1) ≤ IntKind.wrap IntKind.i64 (x0 * x1))) (cond (decide (IntKind.wrap IntKind.i64 (x0 * x1) ≤ (↑(nat_lit 2147483648) : Int))) (some (x0, List.replicate (Int.toNat (IntKind.wrap IntKind.i64 (x0 * x1))) (0 : Int), [], (0 : Int))) none) none) none)) none))))
theorem ev21 (x0 : Int) (x1 : Int) : fnBody Try.prog (mkTn base o0 t0 21) (TM.evF Try.prog (mkTn base o0 t0) dOk 40) dOk 40 21 [.sc (.int .i64 (x0)), .sc (.int .i64 (x1))] [] = (v21 x0 x1).bind fun r => some ([.agg [.int .i64 (r.1), .d 5 (.int .u8) (r.2.1), .d 44 (.pair (.int .i64) (.list 5 (.int .u8))) (r.2.2.1)], .sc (.int .i64 (r.2.2.2))], []) := by
  have h : fnBody Try.prog (mkTn base o0 t0 21) (TM.evF Try.prog (mkTn base o0 t0) dOk 40) dOk 40 21 [.sc (.int .i64 (x0)), .sc (.int .i64 (x1))] [] = (cond (decide (x0 < (1 : Int))) (some ([.agg [.int .i64 ((0 : Int)), .d 5 (.int .u8) ([]), .d 44 (.pair (.int .i64) (.list 5 (.int .u8))) ([])], .sc (.int .i64 ((1 : Int)))], [])) (cond (decide (x0 > (512 : Int))) (some ([.agg [.int .i64 ((0 : Int)), .d 5 (.int .u8) ([]), .d 44 (.pair (.int .i64) (.list 5 (.int .u8))) ([])], .sc (.int .i64 ((1 : Int)))], [])) (cond (decide (x1 < (1 : Int))) (some ([.agg [.int .i64 ((0 : Int)), .d 5 (.int .u8) ([]), .d 44 (.pair (.int .i64) (.list 5 (.int .u8))) ([])], .sc (.int .i64 ((1 : Int)))], [])) (cond (decide (x0 ≠ (0 : Int))) (cond (decide (x1 > IntKind.wrap IntKind.i64 (Int.tdiv (65536 : Int) x0))) (some ([.agg [.int .i64 ((0 : Int)), .d 5 (.int .u8) ([]), .d 44 (.pair (.int .i64) (.list 5 (.int .u8))) ([])], .sc (.int .i64 ((1 : Int)))], [])) (cond (decide ((0 : Int) ≤ IntKind.wrap IntKind.i64 (x0 * x1))) (cond (decide (IntKind.wrap IntKind.i64 (x0 * x1) ≤ IntKind.wrap IntKind.i64 (x0 * x1))) (cond (decide (IntKind.wrap IntKind.i64 (x0 * x1) ≤ (↑(nat_lit 2147483648) : Int))) (some ([.agg [.int .i64 (x0), .d 5 (.int .u8) (List.replicate (Int.toNat (IntKind.wrap IntKind.i64 (x0 * x1))) (0 : Int)), .d 44 (.pair (.int .i64) (.list 5 (.int .u8))) ([])], .sc (.int .i64 ((0 : Int)))], [])) none) none) none)) none)))) := by kernel_rfl
  rw [h]
  unfold v21
  cases (decide (x0 < (1 : Int))) with
  | true =>
    rfl
  | false =>
    cases (decide (x0 > (512 : Int))) with
    | true =>
      rfl
    | false =>
      cases (decide (x1 < (1 : Int))) with
      | true =>
        rfl
      | false =>
        cases (decide (x0 ≠ (0 : Int))) with
        | true =>
          cases (decide (x1 > IntKind.wrap IntKind.i64 (Int.tdiv (65536 : Int) x0))) with
          | true =>
            rfl
          | false =>
            cases (decide ((0 : Int) ≤ IntKind.wrap IntKind.i64 (x0 * x1))) with
            | true =>
              cases (decide (IntKind.wrap IntKind.i64 (x0 * x1) ≤ IntKind.wrap IntKind.i64 (x0 * x1))) with
              | true =>
                cases (decide (IntKind.wrap IntKind.i64 (x0 * x1) ≤ (↑(nat_lit 2147483648) : Int))) with
                | true =>
                  rfl
                | false =>
                  rfl
              | false =>
                rfl
            | false =>
              rfl
        | false =>
          rfl
def sv21 : OrcS := fun al H => match al, H with
  | [.sc (.int .i64 (x0)), .sc (.int .i64 (x1))], [] => some (ok (v21 x0 x1), [.agg [.int .i64 ((val (v21 x0 x1)).1), .d 5 (.int .u8) ((val (v21 x0 x1)).2.1), .d 44 (.pair (.int .i64) (.list 5 (.int .u8))) ((val (v21 x0 x1)).2.2.1)], .sc (.int .i64 ((val (v21 x0 x1)).2.2.2))], [])
  | _, _ => none
theorem wv21 : NewOrc Try.prog dOk base o0 t0 (21, sv21) := by
  intro al H q hq hq1
  have hq : sv21 al H = some q := hq
  unfold sv21 at hq
  split at hq
  · cases hq
    exact ⟨41, (ev21 _ _).trans (ok_bind hq1)⟩
  · cases hq
def o1 : OrcT := (20, sv20) :: (21, sv21) :: o0
def t1 : TellT := t0
abbrev tn1 : FuncId → TAn := mkTn base o1 t1
theorem ok1 : TnOk Try.prog tn1 (mkA base) dOk := by
  have h0 : TnOk Try.prog (mkTn base o0 t0) (mkA base) dOk := ok0
  have h1 := tn_orc h0 h0 (p := (21, sv21)) wv21
  have h2 := tn_orc h0 h1 (p := (20, sv20)) wv20
  exact h2
end Go.Proofs.Ytchgjjgdgbecmaa
set_option maxRecDepth 1000000
set_option linter.unusedVariables false
set_option maxHeartbeats 4000000
namespace Go.Proofs.Ytchgjjgdgbecmaa
open Go Go.AM Go.TM Go.Proofs
/-- queuelabref35.Valid: the loop 0 -/
def L25_0_0 : Nat → Int → Int → Int → (List Int) → (List (Int × (List Int))) → Option (Bool ⊕ (Bool ⊕ (Bool ⊕ Unit)))
  | 0, _, _, _, _, _ => none
  | n + 1, x0, x1, x2, x3, x4 => (cond (decide (x1 < (↑(List.length x4) : Int))) (cond (decide ((0 : Int) ≤ x1)) (cond (decide (Prod.fst (List.getD x4 (Int.toNat x1) ((0 : Int), [])) < (0 : Int))) (some (.inl (false))) (cond (decide (x2 ≠ (0 : Int))) (cond (decide (Prod.fst (List.getD x4 (Int.toNat x1) ((0 : Int), [])) ≥ IntKind.wrap IntKind.i64 (Int.tdiv x0 x2))) (some (.inr (.inl (false)))) (cond ((↑(List.length (Prod.snd (List.getD x4 (Int.toNat x1) ((0 : Int), [])))) : Int) != x2) (some (.inr (.inr (.inl (false))))) (L25_0_0 n (x0) (IntKind.wrap IntKind.i64 (x1 + (1 : Int))) (x2) (x3) (x4)))) none)) none) (some (.inr (.inr (.inr ())))))
theorem qL25_0_0 (n : Nat) (x0 : Int) (x1 : Int) (x2 : Int) (x3 : (List Int)) (x4 : (List (Int × (List Int)))) : L25_0_0 (n + 1) x0 x1 x2 x3 x4 = (cond (decide (x1 < (↑(List.length x4) : Int))) (cond (decide ((0 : Int) ≤ x1)) (cond (decide (Prod.fst (List.getD x4 (Int.toNat x1) ((0 : Int), [])) < (0 : Int))) (some (.inl (false))) (cond (decide (x2 ≠ (0 : Int))) (cond (decide (Prod.fst (List.getD x4 (Int.toNat x1) ((0 : Int), [])) ≥ IntKind.wrap IntKind.i64 (Int.tdiv x0 x2))) (some (.inr (.inl (false)))) (cond ((↑(List.length (Prod.snd (List.getD x4 (Int.toNat x1) ((0 : Int), [])))) : Int) != x2) (some (.inr (.inr (.inl (false))))) (L25_0_0 n (x0) (IntKind.wrap IntKind.i64 (x1 + (1 : Int))) (x2) (x3) (x4)))) none)) none) (some (.inr (.inr (.inr ()))))) := by rfl
def xL25_0_0 (x0 : Int) (x1 : Int) (x2 : Int) (x3 : (List Int)) (x4 : (List (Int × (List Int)))) : (Bool ⊕ (Bool ⊕ (Bool ⊕ Unit))) → Ex × CS := fun r => match r with | .inl a0 => (.ret, { sl := [(1, .l 1 0), (2, .v (.sc (.bool (a0)))), (5, .l 5 0), (41, .l 1 2), (47, .l 1 2), (52, .l 5 0)], lo := [], h := [], n0 := 0 }) | .inr b0 => match b0 with | .inl a1 => (.ret, { sl := [(1, .l 1 0), (2, .v (.sc (.bool (a1)))), (5, .l 5 0), (41, .l 1 2), (47, .l 1 2), (52, .l 5 0), (56, .l 5 0), (59, .l 1 0)], lo := [], h := [], n0 := 0 }) | .inr b1 => match b1 with | .inl a2 => (.ret, { sl := [(1, .l 1 0), (2, .v (.sc (.bool (a2)))), (5, .l 5 0), (41, .l 1 2), (47, .l 1 2), (52, .l 5 0), (56, .l 5 0), (59, .l 1 0), (65, .l 5 1), (68, .l 1 0)], lo := [], h := [], n0 := 0 }) | .inr b2 => ((.exit 0), { sl := [(1, .l 1 0), (41, .l 1 2)], lo := [], h := [], n0 := 0 })
theorem bL25_0_0 (k : Nat) (cN : CS → Option (Ex × CS)) (cX : Ex → CS → Option (Ex × CS)) (x0 : Int) (x1 : Int) (x2 : Int) (x3 : (List Int)) (x4 : (List (Int × (List Int)))) : loopBody Try.prog (mkTn base o1 t1 25) (TM.evF Try.prog (mkTn base o1 t1) dOk (k + 40)) dOk (k + 40) (codeAt Try.prog (tn0 25) 25 0) 0 0 { sl := [(1, .l 1 0), (3, .v (.sc (.int .i64 (x0)))), (4, .v (.sc (.int .i64 (x1))))], lo := [(1, [.int .i64 (x2), .d 5 (.int .u8) (x3), .d 44 (.pair (.int .i64) (.list 5 (.int .u8))) (x4)])], h := [], n0 := 0 } cN cX = (cond (decide (x1 < (↑(List.length x4) : Int))) (cond (decide ((0 : Int) ≤ x1)) (cond (decide (x1 < (↑(List.length x4) : Int))) (cond (decide (Prod.fst (List.getD x4 (Int.toNat x1) ((0 : Int), [])) < (0 : Int))) (cX .ret { sl := [(1, .l 1 0), (2, .v (.sc (.bool (false)))), (5, .l 5 0), (41, .l 1 2), (47, .l 1 2), (52, .l 5 0)], lo := [], h := [], n0 := 0 }) (cond (decide (x2 ≠ (0 : Int))) (cond (decide (Prod.fst (List.getD x4 (Int.toNat x1) ((0 : Int), [])) ≥ IntKind.wrap IntKind.i64 (Int.tdiv x0 x2))) (cX .ret { sl := [(1, .l 1 0), (2, .v (.sc (.bool (false)))), (5, .l 5 0), (41, .l 1 2), (47, .l 1 2), (52, .l 5 0), (56, .l 5 0), (59, .l 1 0)], lo := [], h := [], n0 := 0 }) (cond ((↑(List.length (Prod.snd (List.getD x4 (Int.toNat x1) ((0 : Int), [])))) : Int) != x2) (cX .ret { sl := [(1, .l 1 0), (2, .v (.sc (.bool (false)))), (5, .l 5 0), (41, .l 1 2), (47, .l 1 2), (52, .l 5 0), (56, .l 5 0), (59, .l 1 0), (65, .l 5 1), (68, .l 1 0)], lo := [], h := [], n0 := 0 }) (cN { sl := [(1, .l 1 0), (3, .v (.sc (.int .i64 (x0)))), (4, .v (.sc (.int .i64 (IntKind.wrap IntKind.i64 (x1 + (1 : Int))))))], lo := [(1, [.int .i64 (x2), .d 5 (.int .u8) (x3), .d 44 (.pair (.int .i64) (.list 5 (.int .u8))) (x4)])], h := [], n0 := 0 }))) none)) none) none) (cX (.exit 0) { sl := [(1, .l 1 0), (41, .l 1 2)], lo := [], h := [], n0 := 0 })) := by kernel_rfl
theorem lL25_0_0 (k m : Nat) : ∀ (n : Nat) (x0 : Int) (x1 : Int) (x2 : Int) (x3 : (List Int)) (x4 : (List (Int × (List Int)))) (r : (Bool ⊕ (Bool ⊕ (Bool ⊕ Unit)))), L25_0_0 n x0 x1 x2 x3 x4 = some r → loopE Try.prog (mkTn base o1 t1 25) (TM.evF Try.prog (mkTn base o1 t1) dOk (k + 40)) dOk (k + 40) (codeAt Try.prog (tn0 25) 25 0) 0 0 (n + m) { sl := [(1, .l 1 0), (3, .v (.sc (.int .i64 (x0)))), (4, .v (.sc (.int .i64 (x1))))], lo := [(1, [.int .i64 (x2), .d 5 (.int .u8) (x3), .d 44 (.pair (.int .i64) (.list 5 (.int .u8))) (x4)])], h := [], n0 := 0 } = some (xL25_0_0 x0 x1 x2 x3 x4 r) := by
  intro n
  induction n with
  | zero => intro _ _ _ _ _ r h; cases h
  | succ n ih =>
    intro x0 x1 x2 x3 x4 r
    rw [show n + 1 + m = n + m + 1 by omega, loop_step, bL25_0_0, qL25_0_0]
    cases (decide (x1 < (↑(List.length x4) : Int))) with
    | true =>
      cases (decide ((0 : Int) ≤ x1)) with
      | true =>
        cases (decide (Prod.fst (List.getD x4 (Int.toNat x1) ((0 : Int), [])) < (0 : Int))) with
        | true =>
          intro h; cases h; rfl
        | false =>
          cases (decide (x2 ≠ (0 : Int))) with
          | true =>
            cases (decide (Prod.fst (List.getD x4 (Int.toNat x1) ((0 : Int), [])) ≥ IntKind.wrap IntKind.i64 (Int.tdiv x0 x2))) with
            | true =>
              intro h; cases h; rfl
            | false =>
              cases ((↑(List.length (Prod.snd (List.getD x4 (Int.toNat x1) ((0 : Int), [])))) : Int) != x2) with
              | true =>
                intro h; cases h; rfl
              | false =>
                exact ih _ _ _ _ _ r
          | false =>
            intro h; cases h
      | false =>
        intro h; cases h
    | false =>
      intro h; cases h; rfl
def sL25_0_0 : TellS := fun S => match S with
  | { sl := [(1, .l 1 0), (3, .v (.sc (.int .i64 (x0)))), (4, .v (.sc (.int .i64 (x1))))], lo := [(1, [.int .i64 (x2), .d 5 (.int .u8) (x3), .d 44 (.pair (.int .i64) (.list 5 (.int .u8))) (x4)])], h := [], n0 := 0 } => some [(isL (L25_0_0 FU x0 x1 x2 x3 x4), .ret, { sl := [(1, .l 1 0), (2, .v (.sc (.bool ((getL (L25_0_0 FU x0 x1 x2 x3 x4)))))), (5, .l 5 0), (41, .l 1 2), (47, .l 1 2), (52, .l 5 0)], lo := [], h := [], n0 := 0 }), (isL (getR (L25_0_0 FU x0 x1 x2 x3 x4)), .ret, { sl := [(1, .l 1 0), (2, .v (.sc (.bool ((getL (getR (L25_0_0 FU x0 x1 x2 x3 x4))))))), (5, .l 5 0), (41, .l 1 2), (47, .l 1 2), (52, .l 5 0), (56, .l 5 0), (59, .l 1 0)], lo := [], h := [], n0 := 0 }), (isL (getR (getR (L25_0_0 FU x0 x1 x2 x3 x4))), .ret, { sl := [(1, .l 1 0), (2, .v (.sc (.bool ((getL (getR (getR (L25_0_0 FU x0 x1 x2 x3 x4)))))))), (5, .l 5 0), (41, .l 1 2), (47, .l 1 2), (52, .l 5 0), (56, .l 5 0), (59, .l 1 0), (65, .l 5 1), (68, .l 1 0)], lo := [], h := [], n0 := 0 }), (ok (getR (getR (getR (L25_0_0 FU x0 x1 x2 x3 x4)))), (.exit 0), { sl := [(1, .l 1 0), (41, .l 1 2)], lo := [], h := [], n0 := 0 })]
  | _ => none
theorem wL25_0_0 : NewTell Try.prog dOk base o1 t1 ((25, 0), sL25_0_0) := by
  refine ⟨.loop (codeAt Try.prog (tn0 25) 25 0), 0, by kernel_rfl, ?_⟩
  intro S alts e S' h1 h2
  have h1 : sL25_0_0 S = some alts := h1
  unfold sL25_0_0 at h1
  split at h1
  · cases h1
    rcases pick_cons h2 with ⟨hc0, rfl, rfl⟩ | h2
    · exact ⟨FU + 40, (evPiece_loop rfl).trans (lL25_0_0 FU 40 FU _ _ _ _ _ _ (isL_val hc0))⟩
    rcases pick_cons h2 with ⟨hc1, rfl, rfl⟩ | h2
    · exact ⟨FU + 40, (evPiece_loop rfl).trans (lL25_0_0 FU 40 FU _ _ _ _ _ _ (getR_val (isL_val hc1)))⟩
    rcases pick_cons h2 with ⟨hc2, rfl, rfl⟩ | h2
    · exact ⟨FU + 40, (evPiece_loop rfl).trans (lL25_0_0 FU 40 FU _ _ _ _ _ _ (getR_val (getR_val (isL_val hc2))))⟩
    obtain ⟨hc3, rfl, rfl⟩ := pick_one h2
    exact ⟨FU + 40, (evPiece_loop rfl).trans (lL25_0_0 FU 40 FU _ _ _ _ _ _ (getR_val (getR_val (getR_val (ok_val hc3)))))⟩
  · cases h1
/-- queuelabref35.Few: the loop 0 -/
def L11_0_0 : Nat → Int → Int → (List Int) → (List (Int × (List Int))) → Option (Bool ⊕ Unit)
  | 0, _, _, _, _ => none
  | n + 1, x0, x1, x2, x3 => (cond (decide (x0 < (↑(List.length x3) : Int))) (cond (decide ((0 : Int) ≤ x0)) (cond (decide ((↑(List.length (Prod.snd (List.getD x3 (Int.toNat x0) ((0 : Int), [])))) : Int) > (600 : Int))) (some (.inl (false))) (L11_0_0 n (IntKind.wrap IntKind.i64 (x0 + (1 : Int))) (x1) (x2) (x3))) none) (some (.inr ())))
theorem qL11_0_0 (n : Nat) (x0 : Int) (x1 : Int) (x2 : (List Int)) (x3 : (List (Int × (List Int)))) : L11_0_0 (n + 1) x0 x1 x2 x3 = (cond (decide (x0 < (↑(List.length x3) : Int))) (cond (decide ((0 : Int) ≤ x0)) (cond (decide ((↑(List.length (Prod.snd (List.getD x3 (Int.toNat x0) ((0 : Int), [])))) : Int) > (600 : Int))) (some (.inl (false))) (L11_0_0 n (IntKind.wrap IntKind.i64 (x0 + (1 : Int))) (x1) (x2) (x3))) none) (some (.inr ()))) := by rfl
def xL11_0_0 (x0 : Int) (x1 : Int) (x2 : (List Int)) (x3 : (List (Int × (List Int)))) : (Bool ⊕ Unit) → Ex × CS := fun r => match r with | .inl a0 => (.ret, { sl := [(1, .l 1 0), (2, .v (.sc (.bool (a0)))), (5, .l 1 2), (11, .l 1 2)], lo := [], h := [], n0 := 0 }) | .inr b0 => ((.exit 0), { sl := [(1, .l 1 0), (5, .l 1 2)], lo := [(1, [.int .i64 (x1), .d 5 (.int .u8) (x2), .d 44 (.pair (.int .i64) (.list 5 (.int .u8))) (x3)])], h := [], n0 := 0 })
theorem bL11_0_0 (k : Nat) (cN : CS → Option (Ex × CS)) (cX : Ex → CS → Option (Ex × CS)) (x0 : Int) (x1 : Int) (x2 : (List Int)) (x3 : (List (Int × (List Int)))) : loopBody Try.prog (mkTn base o1 t1 11) (TM.evF Try.prog (mkTn base o1 t1) dOk (k + 40)) dOk (k + 40) (codeAt Try.prog (tn0 11) 11 0) 0 0 { sl := [(1, .l 1 0), (3, .v (.sc (.int .i64 (x0))))], lo := [(1, [.int .i64 (x1), .d 5 (.int .u8) (x2), .d 44 (.pair (.int .i64) (.list 5 (.int .u8))) (x3)])], h := [], n0 := 0 } cN cX = (cond (decide (x0 < (↑(List.length x3) : Int))) (cond (decide ((0 : Int) ≤ x0)) (cond (decide (x0 < (↑(List.length x3) : Int))) (cond (decide ((↑(List.length (Prod.snd (List.getD x3 (Int.toNat x0) ((0 : Int), [])))) : Int) > (600 : Int))) (cX .ret { sl := [(1, .l 1 0), (2, .v (.sc (.bool (false)))), (5, .l 1 2), (11, .l 1 2)], lo := [], h := [], n0 := 0 }) (cN { sl := [(1, .l 1 0), (3, .v (.sc (.int .i64 (IntKind.wrap IntKind.i64 (x0 + (1 : Int))))))], lo := [(1, [.int .i64 (x1), .d 5 (.int .u8) (x2), .d 44 (.pair (.int .i64) (.list 5 (.int .u8))) (x3)])], h := [], n0 := 0 })) none) none) (cX (.exit 0) { sl := [(1, .l 1 0), (5, .l 1 2)], lo := [(1, [.int .i64 (x1), .d 5 (.int .u8) (x2), .d 44 (.pair (.int .i64) (.list 5 (.int .u8))) (x3)])], h := [], n0 := 0 })) := by kernel_rfl
theorem lL11_0_0 (k m : Nat) : ∀ (n : Nat) (x0 : Int) (x1 : Int) (x2 : (List Int)) (x3 : (List (Int × (List Int)))) (r : (Bool ⊕ Unit)), L11_0_0 n x0 x1 x2 x3 = some r → loopE Try.prog (mkTn base o1 t1 11) (TM.evF Try.prog (mkTn base o1 t1) dOk (k + 40)) dOk (k + 40) (codeAt Try.prog (tn0 11) 11 0) 0 0 (n + m) { sl := [(1, .l 1 0), (3, .v (.sc (.int .i64 (x0))))], lo := [(1, [.int .i64 (x1), .d 5 (.int .u8) (x2), .d 44 (.pair (.int .i64) (.list 5 (.int .u8))) (x3)])], h := [], n0 := 0 } = some (xL11_0_0 x0 x1 x2 x3 r) := by
  intro n
  induction n with
  | zero => intro _ _ _ _ r h; cases h
  | succ n ih =>
    intro x0 x1 x2 x3 r
    rw [show n + 1 + m = n + m + 1 by omega, loop_step, bL11_0_0, qL11_0_0]
    cases (decide (x0 < (↑(List.length x3) : Int))) with
    | true =>
      cases (decide ((0 : Int) ≤ x0)) with
      | true =>
        cases (decide ((↑(List.length (Prod.snd (List.getD x3 (Int.toNat x0) ((0 : Int), [])))) : Int) > (600 : Int))) with
        | true =>
          intro h; cases h; rfl
        | false =>
          exact ih _ _ _ _ r
      | false =>
        intro h; cases h
    | false =>
      intro h; cases h; rfl
def sL11_0_0 : TellS := fun S => match S with
  | { sl := [(1, .l 1 0), (3, .v (.sc (.int .i64 (x0))))], lo := [(1, [.int .i64 (x1), .d 5 (.int .u8) (x2), .d 44 (.pair (.int .i64) (.list 5 (.int .u8))) (x3)])], h := [], n0 := 0 } => some [(isL (L11_0_0 FU x0 x1 x2 x3), .ret, { sl := [(1, .l 1 0), (2, .v (.sc (.bool ((getL (L11_0_0 FU x0 x1 x2 x3)))))), (5, .l 1 2), (11, .l 1 2)], lo := [], h := [], n0 := 0 }), (ok (getR (L11_0_0 FU x0 x1 x2 x3)), (.exit 0), { sl := [(1, .l 1 0), (5, .l 1 2)], lo := [(1, [.int .i64 (x1), .d 5 (.int .u8) (x2), .d 44 (.pair (.int .i64) (.list 5 (.int .u8))) (x3)])], h := [], n0 := 0 })]
  | _ => none
theorem wL11_0_0 : NewTell Try.prog dOk base o1 t1 ((11, 0), sL11_0_0) := by
  refine ⟨.loop (codeAt Try.prog (tn0 11) 11 0), 0, by kernel_rfl, ?_⟩
  intro S alts e S' h1 h2
  have h1 : sL11_0_0 S = some alts := h1
  unfold sL11_0_0 at h1
  split at h1
  · cases h1
    rcases pick_cons h2 with ⟨hc0, rfl, rfl⟩ | h2
    · exact ⟨FU + 40, (evPiece_loop rfl).trans (lL11_0_0 FU 40 FU _ _ _ _ _ (isL_val hc0))⟩
    obtain ⟨hc1, rfl, rfl⟩ := pick_one h2
    exact ⟨FU + 40, (evPiece_loop rfl).trans (lL11_0_0 FU 40 FU _ _ _ _ _ (getR_val (ok_val hc1)))⟩
  · cases h1
/-- queuelabref35.Bytes: the loop 0 -/
def L23_0_0 : Nat → (List Int) → (List Int) → Int → Option (Bool ⊕ Unit)
  | 0, _, _, _ => none
  | n + 1, x0, x1, x2 => (cond (decide (x2 < (↑(List.length x0) : Int))) (cond (decide ((0 : Int) ≤ x2)) (cond (decide (x2 < (↑(List.length x1) : Int))) (cond (List.getD x0 (Int.toNat x2) (0 : Int) != List.getD x1 (Int.toNat x2) (0 : Int)) (some (.inl (false))) (L23_0_0 n (x0) (x1) (IntKind.wrap IntKind.i64 (x2 + (1 : Int))))) none) none) (some (.inr ())))
theorem qL23_0_0 (n : Nat) (x0 : (List Int)) (x1 : (List Int)) (x2 : Int) : L23_0_0 (n + 1) x0 x1 x2 = (cond (decide (x2 < (↑(List.length x0) : Int))) (cond (decide ((0 : Int) ≤ x2)) (cond (decide (x2 < (↑(List.length x1) : Int))) (cond (List.getD x0 (Int.toNat x2) (0 : Int) != List.getD x1 (Int.toNat x2) (0 : Int)) (some (.inl (false))) (L23_0_0 n (x0) (x1) (IntKind.wrap IntKind.i64 (x2 + (1 : Int))))) none) none) (some (.inr ()))) := by rfl
def xL23_0_0 (x0 : (List Int)) (x1 : (List Int)) (x2 : Int) : (Bool ⊕ Unit) → Ex × CS := fun r => match r with | .inl a0 => (.ret, { sl := [(4, .v (.sc (.bool (a0))))], lo := [], h := [], n0 := 0 }) | .inr b0 => ((.exit 0), { sl := [], lo := [], h := [], n0 := 0 })
theorem bL23_0_0 (k : Nat) (cN : CS → Option (Ex × CS)) (cX : Ex → CS → Option (Ex × CS)) (x0 : (List Int)) (x1 : (List Int)) (x2 : Int) : loopBody Try.prog (mkTn base o1 t1 23) (TM.evF Try.prog (mkTn base o1 t1) dOk (k + 40)) dOk (k + 40) (codeAt Try.prog (tn0 23) 23 0) 0 0 { sl := [(0, .v (.sc (.d 5 (.int .u8) (x0)))), (1, .v (.sc (.d 5 (.int .u8) (x1)))), (5, .v (.sc (.int .i64 (x2))))], lo := [], h := [], n0 := 0 } cN cX = (cond (decide (x2 < (↑(List.length x0) : Int))) (cond (decide ((0 : Int) ≤ x2)) (cond (decide (x2 < (↑(List.length x0) : Int))) (cond (decide ((0 : Int) ≤ x2)) (cond (decide (x2 < (↑(List.length x1) : Int))) (cond (List.getD x0 (Int.toNat x2) (0 : Int) != List.getD x1 (Int.toNat x2) (0 : Int)) (cX .ret { sl := [(4, .v (.sc (.bool (false))))], lo := [], h := [], n0 := 0 }) (cN { sl := [(0, .v (.sc (.d 5 (.int .u8) (x0)))), (1, .v (.sc (.d 5 (.int .u8) (x1)))), (5, .v (.sc (.int .i64 (IntKind.wrap IntKind.i64 (x2 + (1 : Int))))))], lo := [], h := [], n0 := 0 })) none) none) none) none) (cX (.exit 0) { sl := [], lo := [], h := [], n0 := 0 })) := by kernel_rfl
theorem lL23_0_0 (k m : Nat) : ∀ (n : Nat) (x0 : (List Int)) (x1 : (List Int)) (x2 : Int) (r : (Bool ⊕ Unit)), L23_0_0 n x0 x1 x2 = some r → loopE Try.prog (mkTn base o1 t1 23) (TM.evF Try.prog (mkTn base o1 t1) dOk (k + 40)) dOk (k + 40) (codeAt Try.prog (tn0 23) 23 0) 0 0 (n + m) { sl := [(0, .v (.sc (.d 5 (.int .u8) (x0)))), (1, .v (.sc (.d 5 (.int .u8) (x1)))), (5, .v (.sc (.int .i64 (x2))))], lo := [], h := [], n0 := 0 } = some (xL23_0_0 x0 x1 x2 r) := by
  intro n
  induction n with
  | zero => intro _ _ _ r h; cases h
  | succ n ih =>
    intro x0 x1 x2 r
    rw [show n + 1 + m = n + m + 1 by omega, loop_step, bL23_0_0, qL23_0_0]
    cases (decide (x2 < (↑(List.length x0) : Int))) with
    | true =>
      cases (decide ((0 : Int) ≤ x2)) with
      | true =>
        cases (decide (x2 < (↑(List.length x1) : Int))) with
        | true =>
          cases (List.getD x0 (Int.toNat x2) (0 : Int) != List.getD x1 (Int.toNat x2) (0 : Int)) with
          | true =>
            intro h; cases h; rfl
          | false =>
            exact ih _ _ _ r
        | false =>
          intro h; cases h
      | false =>
        intro h; cases h
    | false =>
      intro h; cases h; rfl
def sL23_0_0 : TellS := fun S => match S with
  | { sl := [(0, .v (.sc (.d 5 (.int .u8) (x0)))), (1, .v (.sc (.d 5 (.int .u8) (x1)))), (5, .v (.sc (.int .i64 (x2))))], lo := [], h := [], n0 := 0 } => some [(isL (L23_0_0 FU x0 x1 x2), .ret, { sl := [(4, .v (.sc (.bool ((getL (L23_0_0 FU x0 x1 x2))))))], lo := [], h := [], n0 := 0 }), (ok (getR (L23_0_0 FU x0 x1 x2)), (.exit 0), { sl := [], lo := [], h := [], n0 := 0 })]
  | _ => none
theorem wL23_0_0 : NewTell Try.prog dOk base o1 t1 ((23, 0), sL23_0_0) := by
  refine ⟨.loop (codeAt Try.prog (tn0 23) 23 0), 0, by kernel_rfl, ?_⟩
  intro S alts e S' h1 h2
  have h1 : sL23_0_0 S = some alts := h1
  unfold sL23_0_0 at h1
  split at h1
  · cases h1
    rcases pick_cons h2 with ⟨hc0, rfl, rfl⟩ | h2
    · exact ⟨FU + 40, (evPiece_loop rfl).trans (lL23_0_0 FU 40 FU _ _ _ _ (isL_val hc0))⟩
    obtain ⟨hc1, rfl, rfl⟩ := pick_one h2
    exact ⟨FU + 40, (evPiece_loop rfl).trans (lL23_0_0 FU 40 FU _ _ _ _ (getR_val (ok_val hc1)))⟩
  · cases h1
/-- queuelabref35.Sync: the loop 0 -/
def L15_0_0 : Nat → Int → Int → (List Int) → (List (Int × (List Int))) → Int → (List Bool) → (List Int) → (List (Int × (List Int))) → Option (List Bool)
  | 0, _, _, _, _, _, _, _, _ => none
  | n + 1, x0, x1, x2, x3, x4, x5, x6, x7 => (cond (decide (x0 < (↑(List.length x5) : Int))) (cond (decide ((0 : Int) ≤ x0)) (cond (decide (Int.toNat x0 < List.length x5)) (L15_0_0 n (IntKind.wrap IntKind.i64 (x0 + (1 : Int))) (x1) (x2) (x3) (x4) (List.set x5 (Int.toNat x0) true) (x6) (x7)) none) none) (some (x5)))
theorem qL15_0_0 (n : Nat) (x0 : Int) (x1 : Int) (x2 : (List Int)) (x3 : (List (Int × (List Int)))) (x4 : Int) (x5 : (List Bool)) (x6 : (List Int)) (x7 : (List (Int × (List Int)))) : L15_0_0 (n + 1) x0 x1 x2 x3 x4 x5 x6 x7 = (cond (decide (x0 < (↑(List.length x5) : Int))) (cond (decide ((0 : Int) ≤ x0)) (cond (decide (Int.toNat x0 < List.length x5)) (L15_0_0 n (IntKind.wrap IntKind.i64 (x0 + (1 : Int))) (x1) (x2) (x3) (x4) (List.set x5 (Int.toNat x0) true) (x6) (x7)) none) none) (some (x5))) := by rfl
def xL15_0_0 (x0 : Int) (x1 : Int) (x2 : (List Int)) (x3 : (List (Int × (List Int)))) (x4 : Int) (x5 : (List Bool)) (x6 : (List Int)) (x7 : (List (Int × (List Int)))) : (List Bool) → Ex × CS := fun r => ((.exit 0), { sl := [(1, .l 1 0), (2, .l 2 0), (4, .v (.sc (.g 0)))], lo := [(1, [.int .i64 (x1), .d 5 (.int .u8) (x2), .d 44 (.pair (.int .i64) (.list 5 (.int .u8))) (x3)]), (2, [.int .i64 (x4), .g 1, .g 2])], h := [.row 4 .bool (r), .row 5 (.int .u8) (x6), .row 44 (.pair (.int .i64) (.list 5 (.int .u8))) (x7)], n0 := 0 })
theorem bL15_0_0 (k : Nat) (cN : CS → Option (Ex × CS)) (cX : Ex → CS → Option (Ex × CS)) (x0 : Int) (x1 : Int) (x2 : (List Int)) (x3 : (List (Int × (List Int)))) (x4 : Int) (x5 : (List Bool)) (x6 : (List Int)) (x7 : (List (Int × (List Int)))) : loopBody Try.prog (mkTn base o1 t1 15) (TM.evF Try.prog (mkTn base o1 t1) dOk (k + 40)) dOk (k + 40) (codeAt Try.prog (tn0 15) 15 0) 0 0 { sl := [(1, .l 1 0), (2, .l 2 0), (4, .v (.sc (.g 0))), (5, .v (.sc (.int .i64 (x0))))], lo := [(1, [.int .i64 (x1), .d 5 (.int .u8) (x2), .d 44 (.pair (.int .i64) (.list 5 (.int .u8))) (x3)]), (2, [.int .i64 (x4), .g 1, .g 2])], h := [.row 4 .bool (x5), .row 5 (.int .u8) (x6), .row 44 (.pair (.int .i64) (.list 5 (.int .u8))) (x7)], n0 := 0 } cN cX = (cond (decide (x0 < (↑(List.length x5) : Int))) (cond (decide ((0 : Int) ≤ x0)) (cond (decide (x0 < (↑(List.length x5) : Int))) (cond (decide (Int.toNat x0 < List.length x5)) (cN { sl := [(1, .l 1 0), (2, .l 2 0), (4, .v (.sc (.g 0))), (5, .v (.sc (.int .i64 (IntKind.wrap IntKind.i64 (x0 + (1 : Int))))))], lo := [(1, [.int .i64 (x1), .d 5 (.int .u8) (x2), .d 44 (.pair (.int .i64) (.list 5 (.int .u8))) (x3)]), (2, [.int .i64 (x4), .g 1, .g 2])], h := [.row 4 .bool (List.set x5 (Int.toNat x0) true), .row 5 (.int .u8) (x6), .row 44 (.pair (.int .i64) (.list 5 (.int .u8))) (x7)], n0 := 0 }) none) none) none) (cX (.exit 0) { sl := [(1, .l 1 0), (2, .l 2 0), (4, .v (.sc (.g 0)))], lo := [(1, [.int .i64 (x1), .d 5 (.int .u8) (x2), .d 44 (.pair (.int .i64) (.list 5 (.int .u8))) (x3)]), (2, [.int .i64 (x4), .g 1, .g 2])], h := [.row 4 .bool (x5), .row 5 (.int .u8) (x6), .row 44 (.pair (.int .i64) (.list 5 (.int .u8))) (x7)], n0 := 0 })) := by kernel_rfl
theorem lL15_0_0 (k m : Nat) : ∀ (n : Nat) (x0 : Int) (x1 : Int) (x2 : (List Int)) (x3 : (List (Int × (List Int)))) (x4 : Int) (x5 : (List Bool)) (x6 : (List Int)) (x7 : (List (Int × (List Int)))) (r : (List Bool)), L15_0_0 n x0 x1 x2 x3 x4 x5 x6 x7 = some r → loopE Try.prog (mkTn base o1 t1 15) (TM.evF Try.prog (mkTn base o1 t1) dOk (k + 40)) dOk (k + 40) (codeAt Try.prog (tn0 15) 15 0) 0 0 (n + m) { sl := [(1, .l 1 0), (2, .l 2 0), (4, .v (.sc (.g 0))), (5, .v (.sc (.int .i64 (x0))))], lo := [(1, [.int .i64 (x1), .d 5 (.int .u8) (x2), .d 44 (.pair (.int .i64) (.list 5 (.int .u8))) (x3)]), (2, [.int .i64 (x4), .g 1, .g 2])], h := [.row 4 .bool (x5), .row 5 (.int .u8) (x6), .row 44 (.pair (.int .i64) (.list 5 (.int .u8))) (x7)], n0 := 0 } = some (xL15_0_0 x0 x1 x2 x3 x4 x5 x6 x7 r) := by
  intro n
  induction n with
  | zero => intro _ _ _ _ _ _ _ _ r h; cases h
  | succ n ih =>
    intro x0 x1 x2 x3 x4 x5 x6 x7 r
    rw [show n + 1 + m = n + m + 1 by omega, loop_step, bL15_0_0, qL15_0_0]
    cases (decide (x0 < (↑(List.length x5) : Int))) with
    | true =>
      cases (decide ((0 : Int) ≤ x0)) with
      | true =>
        cases (decide (Int.toNat x0 < List.length x5)) with
        | true =>
          exact ih _ _ _ _ _ _ _ _ r
        | false =>
          intro h; cases h
      | false =>
        intro h; cases h
    | false =>
      intro h; cases h; rfl
def sL15_0_0 : TellS := fun S => match S with
  | { sl := [(1, .l 1 0), (2, .l 2 0), (4, .v (.sc (.g 0))), (5, .v (.sc (.int .i64 (x0))))], lo := [(1, [.int .i64 (x1), .d 5 (.int .u8) (x2), .d 44 (.pair (.int .i64) (.list 5 (.int .u8))) (x3)]), (2, [.int .i64 (x4), .g 1, .g 2])], h := [.row 4 .bool (x5), .row 5 (.int .u8) (x6), .row 44 (.pair (.int .i64) (.list 5 (.int .u8))) (x7)], n0 := 0 } => some [(ok (L15_0_0 FU x0 x1 x2 x3 x4 x5 x6 x7), (.exit 0), { sl := [(1, .l 1 0), (2, .l 2 0), (4, .v (.sc (.g 0)))], lo := [(1, [.int .i64 (x1), .d 5 (.int .u8) (x2), .d 44 (.pair (.int .i64) (.list 5 (.int .u8))) (x3)]), (2, [.int .i64 (x4), .g 1, .g 2])], h := [.row 4 .bool ((val (L15_0_0 FU x0 x1 x2 x3 x4 x5 x6 x7))), .row 5 (.int .u8) (x6), .row 44 (.pair (.int .i64) (.list 5 (.int .u8))) (x7)], n0 := 0 })]
  | _ => none
theorem wL15_0_0 : NewTell Try.prog dOk base o1 t1 ((15, 0), sL15_0_0) := by
  refine ⟨.loop (codeAt Try.prog (tn0 15) 15 0), 0, by kernel_rfl, ?_⟩
  intro S alts e S' h1 h2
  have h1 : sL15_0_0 S = some alts := h1
  unfold sL15_0_0 at h1
  split at h1
  · cases h1
    obtain ⟨hc0, rfl, rfl⟩ := pick_one h2
    exact ⟨FU + 40, (evPiece_loop rfl).trans (lL15_0_0 FU 40 FU _ _ _ _ _ _ _ _ _ (ok_val hc0))⟩
  · cases h1
/-- queuelabref35.Copy: the loop 0 -/
def L27_0_0 : Nat → Int → Int → (List Int) → (List (Int × (List Int))) → Int → Int → (List Int) → (List (Int × (List Int))) → (List Int) → (List (Int × (List Int))) → Option (List (Int × (List Int)))
  | 0, _, _, _, _, _, _, _, _, _, _ => none
  | n + 1, x0, x1, x2, x3, x4, x5, x6, x7, x8, x9 => (cond (decide (x0 < (↑(List.length x3) : Int))) (cond (decide ((0 : Int) ≤ x0)) (cond (decide (List.length (Prod.snd (List.getD x3 (Int.toNat x0) ((0 : Int), []))) ≤ nat_lit 2147483648)) (cond (decide (List.length x9 + List.length [(Prod.fst (List.getD x3 (Int.toNat x0) ((0 : Int), [])), Prod.snd (List.getD x3 (Int.toNat x0) ((0 : Int), [])))] ≤ nat_lit 2147483648)) (L27_0_0 n (IntKind.wrap IntKind.i64 (x0 + (1 : Int))) (x1) (x2) (x3) (x4) (x5) (x6) (x7) (x8) (x9 ++ [(Prod.fst (List.getD x3 (Int.toNat x0) ((0 : Int), [])), Prod.snd (List.getD x3 (Int.toNat x0) ((0 : Int), [])))])) none) none) none) (some (x9)))
theorem qL27_0_0 (n : Nat) (x0 : Int) (x1 : Int) (x2 : (List Int)) (x3 : (List (Int × (List Int)))) (x4 : Int) (x5 : Int) (x6 : (List Int)) (x7 : (List (Int × (List Int)))) (x8 : (List Int)) (x9 : (List (Int × (List Int)))) : L27_0_0 (n + 1) x0 x1 x2 x3 x4 x5 x6 x7 x8 x9 = (cond (decide (x0 < (↑(List.length x3) : Int))) (cond (decide ((0 : Int) ≤ x0)) (cond (decide (List.length (Prod.snd (List.getD x3 (Int.toNat x0) ((0 : Int), []))) ≤ nat_lit 2147483648)) (cond (decide (List.length x9 + List.length [(Prod.fst (List.getD x3 (Int.toNat x0) ((0 : Int), [])), Prod.snd (List.getD x3 (Int.toNat x0) ((0 : Int), [])))] ≤ nat_lit 2147483648)) (L27_0_0 n (IntKind.wrap IntKind.i64 (x0 + (1 : Int))) (x1) (x2) (x3) (x4) (x5) (x6) (x7) (x8) (x9 ++ [(Prod.fst (List.getD x3 (Int.toNat x0) ((0 : Int), [])), Prod.snd (List.getD x3 (Int.toNat x0) ((0 : Int), [])))])) none) none) none) (some (x9))) := by rfl
def xL27_0_0 (x0 : Int) (x1 : Int) (x2 : (List Int)) (x3 : (List (Int × (List Int)))) (x4 : Int) (x5 : Int) (x6 : (List Int)) (x7 : (List (Int × (List Int)))) (x8 : (List Int)) (x9 : (List (Int × (List Int)))) : (List (Int × (List Int))) → Ex × CS := fun r => ((.exit 0), { sl := [(1, .l 1 0), (2, .l 2 0), (3, .l 3 0), (13, .l 1 2)], lo := [(2, [.int .i64 (x4), .g 0, .g 1]), (3, [.int .i64 (x5), .g 2, .g 3])], h := [.row 5 (.int .u8) (x6), .row 44 (.pair (.int .i64) (.list 5 (.int .u8))) (x7), .row 5 (.int .u8) (x8), .row 44 (.pair (.int .i64) (.list 5 (.int .u8))) (r)], n0 := 0 })
theorem bL27_0_0 (k : Nat) (cN : CS → Option (Ex × CS)) (cX : Ex → CS → Option (Ex × CS)) (x0 : Int) (x1 : Int) (x2 : (List Int)) (x3 : (List (Int × (List Int)))) (x4 : Int) (x5 : Int) (x6 : (List Int)) (x7 : (List (Int × (List Int)))) (x8 : (List Int)) (x9 : (List (Int × (List Int)))) : loopBody Try.prog (mkTn base o1 t1 27) (TM.evF Try.prog (mkTn base o1 t1) dOk (k + 40)) dOk (k + 40) (codeAt Try.prog (tn0 27) 27 0) 0 0 { sl := [(1, .l 1 0), (2, .l 2 0), (3, .l 3 0), (4, .v (.sc (.int .i64 (x0))))], lo := [(1, [.int .i64 (x1), .d 5 (.int .u8) (x2), .d 44 (.pair (.int .i64) (.list 5 (.int .u8))) (x3)]), (2, [.int .i64 (x4), .g 0, .g 1]), (3, [.int .i64 (x5), .g 2, .g 3])], h := [.row 5 (.int .u8) (x6), .row 44 (.pair (.int .i64) (.list 5 (.int .u8))) (x7), .row 5 (.int .u8) (x8), .row 44 (.pair (.int .i64) (.list 5 (.int .u8))) (x9)], n0 := 0 } cN cX = (cond (decide (x0 < (↑(List.length x3) : Int))) (cond (decide ((0 : Int) ≤ x0)) (cond (decide (x0 < (↑(List.length x3) : Int))) (cond (decide ((0 : Int) ≤ x0)) (cond (decide (x0 < (↑(List.length x3) : Int))) (cond (decide (List.length (Prod.snd (List.getD x3 (Int.toNat x0) ((0 : Int), []))) ≤ nat_lit 2147483648)) (cond (decide (List.length x9 + List.length [(Prod.fst (List.getD x3 (Int.toNat x0) ((0 : Int), [])), Prod.snd (List.getD x3 (Int.toNat x0) ((0 : Int), [])))] ≤ nat_lit 2147483648)) (cN { sl := [(1, .l 1 0), (2, .l 2 0), (3, .l 3 0), (4, .v (.sc (.int .i64 (IntKind.wrap IntKind.i64 (x0 + (1 : Int))))))], lo := [(1, [.int .i64 (x1), .d 5 (.int .u8) (x2), .d 44 (.pair (.int .i64) (.list 5 (.int .u8))) (x3)]), (2, [.int .i64 (x4), .g 0, .g 1]), (3, [.int .i64 (x5), .g 2, .g 3])], h := [.row 5 (.int .u8) (x6), .row 44 (.pair (.int .i64) (.list 5 (.int .u8))) (x7), .row 5 (.int .u8) (x8), .row 44 (.pair (.int .i64) (.list 5 (.int .u8))) (x9 ++ [(Prod.fst (List.getD x3 (Int.toNat x0) ((0 : Int), [])), Prod.snd (List.getD x3 (Int.toNat x0) ((0 : Int), [])))])], n0 := 0 }) none) none) none) none) none) none) (cX (.exit 0) { sl := [(1, .l 1 0), (2, .l 2 0), (3, .l 3 0), (13, .l 1 2)], lo := [(2, [.int .i64 (x4), .g 0, .g 1]), (3, [.int .i64 (x5), .g 2, .g 3])], h := [.row 5 (.int .u8) (x6), .row 44 (.pair (.int .i64) (.list 5 (.int .u8))) (x7), .row 5 (.int .u8) (x8), .row 44 (.pair (.int .i64) (.list 5 (.int .u8))) (x9)], n0 := 0 })) := by kernel_rfl
theorem lL27_0_0 (k m : Nat) : ∀ (n : Nat) (x0 : Int) (x1 : Int) (x2 : (List Int)) (x3 : (List (Int × (List Int)))) (x4 : Int) (x5 : Int) (x6 : (List Int)) (x7 : (List (Int × (List Int)))) (x8 : (List Int)) (x9 : (List (Int × (List Int)))) (r : (List (Int × (List Int)))), L27_0_0 n x0 x1 x2 x3 x4 x5 x6 x7 x8 x9 = some r → loopE Try.prog (mkTn base o1 t1 27) (TM.evF Try.prog (mkTn base o1 t1) dOk (k + 40)) dOk (k + 40) (codeAt Try.prog (tn0 27) 27 0) 0 0 (n + m) { sl := [(1, .l 1 0), (2, .l 2 0), (3, .l 3 0), (4, .v (.sc (.int .i64 (x0))))], lo := [(1, [.int .i64 (x1), .d 5 (.int .u8) (x2), .d 44 (.pair (.int .i64) (.list 5 (.int .u8))) (x3)]), (2, [.int .i64 (x4), .g 0, .g 1]), (3, [.int .i64 (x5), .g 2, .g 3])], h := [.row 5 (.int .u8) (x6), .row 44 (.pair (.int .i64) (.list 5 (.int .u8))) (x7), .row 5 (.int .u8) (x8), .row 44 (.pair (.int .i64) (.list 5 (.int .u8))) (x9)], n0 := 0 } = some (xL27_0_0 x0 x1 x2 x3 x4 x5 x6 x7 x8 x9 r) := by
  intro n
  induction n with
  | zero => intro _ _ _ _ _ _ _ _ _ _ r h; cases h
  | succ n ih =>
    intro x0 x1 x2 x3 x4 x5 x6 x7 x8 x9 r
    rw [show n + 1 + m = n + m + 1 by omega, loop_step, bL27_0_0, qL27_0_0]
    cases (decide (x0 < (↑(List.length x3) : Int))) with
    | true =>
      cases (decide ((0 : Int) ≤ x0)) with
      | true =>
        cases (decide (List.length (Prod.snd (List.getD x3 (Int.toNat x0) ((0 : Int), []))) ≤ nat_lit 2147483648)) with
        | true =>
          cases (decide (List.length x9 + List.length [(Prod.fst (List.getD x3 (Int.toNat x0) ((0 : Int), [])), Prod.snd (List.getD x3 (Int.toNat x0) ((0 : Int), [])))] ≤ nat_lit 2147483648)) with
          | true =>
            exact ih _ _ _ _ _ _ _ _ _ _ r
          | false =>
            intro h; cases h
        | false =>
          intro h; cases h
      | false =>
        intro h; cases h
    | false =>
      intro h; cases h; rfl
def sL27_0_0 : TellS := fun S => match S with
  | { sl := [(1, .l 1 0), (2, .l 2 0), (3, .l 3 0), (4, .v (.sc (.int .i64 (x0))))], lo := [(1, [.int .i64 (x1), .d 5 (.int .u8) (x2), .d 44 (.pair (.int .i64) (.list 5 (.int .u8))) (x3)]), (2, [.int .i64 (x4), .g 0, .g 1]), (3, [.int .i64 (x5), .g 2, .g 3])], h := [.row 5 (.int .u8) (x6), .row 44 (.pair (.int .i64) (.list 5 (.int .u8))) (x7), .row 5 (.int .u8) (x8), .row 44 (.pair (.int .i64) (.list 5 (.int .u8))) (x9)], n0 := 0 } => some [(ok (L27_0_0 FU x0 x1 x2 x3 x4 x5 x6 x7 x8 x9), (.exit 0), { sl := [(1, .l 1 0), (2, .l 2 0), (3, .l 3 0), (13, .l 1 2)], lo := [(2, [.int .i64 (x4), .g 0, .g 1]), (3, [.int .i64 (x5), .g 2, .g 3])], h := [.row 5 (.int .u8) (x6), .row 44 (.pair (.int .i64) (.list 5 (.int .u8))) (x7), .row 5 (.int .u8) (x8), .row 44 (.pair (.int .i64) (.list 5 (.int .u8))) ((val (L27_0_0 FU x0 x1 x2 x3 x4 x5 x6 x7 x8 x9)))], n0 := 0 })]
  | _ => none
theorem wL27_0_0 : NewTell Try.prog dOk base o1 t1 ((27, 0), sL27_0_0) := by
  refine ⟨.loop (codeAt Try.prog (tn0 27) 27 0), 0, by kernel_rfl, ?_⟩
  intro S alts e S' h1 h2
  have h1 : sL27_0_0 S = some alts := h1
  unfold sL27_0_0 at h1
  split at h1
  · cases h1
    obtain ⟨hc0, rfl, rfl⟩ := pick_one h2
    exact ⟨FU + 40, (evPiece_loop rfl).trans (lL27_0_0 FU 40 FU _ _ _ _ _ _ _ _ _ _ _ (ok_val hc0))⟩
  · cases h1
def o2 : OrcT := o1
def t2 : TellT := ((25, 0), sL25_0_0) :: ((11, 0), sL11_0_0) :: ((23, 0), sL23_0_0) :: ((15, 0), sL15_0_0) :: ((27, 0), sL27_0_0) :: t1
abbrev tn2 : FuncId → TAn := mkTn base o2 t2
theorem ok2 : TnOk Try.prog tn2 (mkA base) dOk := by
  have h0 : TnOk Try.prog (mkTn base o1 t1) (mkA base) dOk := ok1
  have h1 := tn_tell h0 h0 (p := ((27, 0), sL27_0_0)) wL27_0_0
  have h2 := tn_tell h0 h1 (p := ((15, 0), sL15_0_0)) wL15_0_0
  have h3 := tn_tell h0 h2 (p := ((23, 0), sL23_0_0)) wL23_0_0
  have h4 := tn_tell h0 h3 (p := ((11, 0), sL11_0_0)) wL11_0_0
  have h5 := tn_tell h0 h4 (p := ((25, 0), sL25_0_0)) wL25_0_0
  exact h5
end Go.Proofs.Ytchgjjgdgbecmaa
set_option maxRecDepth 1000000
set_option linter.unusedVariables false
set_option maxHeartbeats 4000000
namespace Go.Proofs.Ytchgjjgdgbecmaa
open Go Go.AM Go.TM Go.Proofs
/-- queuelabref35.Valid -/
def v25 (x0 : Int) (x1 : (List Int)) (x2 : (List (Int × (List Int)))) : Option Bool := (cond (decide (x0 < (1 : Int))) (some (false)) (cond (decide (x0 > (512 : Int))) (some (false)) (cond (decide ((↑(List.length x1) : Int) < x0)) (some (false)) (cond (decide ((↑(List.length x1) : Int) > (65536 : Int))) (some (false)) (cond (decide (x0 ≠ (0 : Int))) (cond (Int.tmod (↑(List.length x1) : Int) x0 != (0 : Int)) (some (false)) (cond (decide ((↑(List.length x2) : Int) > (64 : Int))) (some (false)) (cond (isL (L25_0_0 FU (↑(List.length x1) : Int) (0 : Int) x0 x1 x2)) (some (getL (L25_0_0 FU (↑(List.length x1) : Int) (0 : Int) x0 x1 x2))) (cond (isL (getR (L25_0_0 FU (↑(List.length x1) : Int) (0 : Int) x0 x1 x2))) (some (getL (getR (L25_0_0 FU (↑(List.length x1) : Int) (0 : Int) x0 x1 x2)))) (cond (isL (getR (getR (L25_0_0 FU (↑(List.length x1) : Int) (0 : Int) x0 x1 x2)))) (some (getL (getR (getR (L25_0_0 FU (↑(List.length x1) : Int) (0 : Int) x0 x1 x2))))) (cond (ok (getR (getR (getR (L25_0_0 FU (↑(List.length x1) : Int) (0 : Int) x0 x1 x2))))) (some (true)) none)))))) none)))))
theorem ev25 (x0 : Int) (x1 : (List Int)) (x2 : (List (Int × (List Int)))) : fnBody Try.prog (mkTn base o2 t2 25) (TM.evF Try.prog (mkTn base o2 t2) dOk 40) dOk 40 25 [.agg [.int .i64 (x0), .d 5 (.int .u8) (x1), .d 44 (.pair (.int .i64) (.list 5 (.int .u8))) (x2)]] [] = (v25 x0 x1 x2).bind fun r => some ([.sc (.bool (r))], []) := by
  have h : fnBody Try.prog (mkTn base o2 t2 25) (TM.evF Try.prog (mkTn base o2 t2) dOk 40) dOk 40 25 [.agg [.int .i64 (x0), .d 5 (.int .u8) (x1), .d 44 (.pair (.int .i64) (.list 5 (.int .u8))) (x2)]] [] = (cond (decide (x0 < (1 : Int))) (some ([.sc (.bool (false))], [])) (cond (decide (x0 > (512 : Int))) (some ([.sc (.bool (false))], [])) (cond (decide ((↑(List.length x1) : Int) < x0)) (some ([.sc (.bool (false))], [])) (cond (decide ((↑(List.length x1) : Int) > (65536 : Int))) (some ([.sc (.bool (false))], [])) (cond (decide (x0 ≠ (0 : Int))) (cond (Int.tmod (↑(List.length x1) : Int) x0 != (0 : Int)) (some ([.sc (.bool (false))], [])) (cond (decide ((↑(List.length x2) : Int) > (64 : Int))) (some ([.sc (.bool (false))], [])) (cond (isL (L25_0_0 FU (↑(List.length x1) : Int) (0 : Int) x0 x1 x2)) (some ([.sc (.bool (getL (L25_0_0 FU (↑(List.length x1) : Int) (0 : Int) x0 x1 x2)))], [])) (cond (isL (getR (L25_0_0 FU (↑(List.length x1) : Int) (0 : Int) x0 x1 x2))) (some ([.sc (.bool (getL (getR (L25_0_0 FU (↑(List.length x1) : Int) (0 : Int) x0 x1 x2))))], [])) (cond (isL (getR (getR (L25_0_0 FU (↑(List.length x1) : Int) (0 : Int) x0 x1 x2)))) (some ([.sc (.bool (getL (getR (getR (L25_0_0 FU (↑(List.length x1) : Int) (0 : Int) x0 x1 x2)))))], [])) (cond (ok (getR (getR (getR (L25_0_0 FU (↑(List.length x1) : Int) (0 : Int) x0 x1 x2))))) (some ([.sc (.bool (true))], [])) none)))))) none))))) := by kernel_rfl
  rw [h]
  unfold v25
  cases (decide (x0 < (1 : Int))) with
  | true =>
    rfl
  | false =>
    cases (decide (x0 > (512 : Int))) with
    | true =>
      rfl
    | false =>
      cases (decide ((↑(List.length x1) : Int) < x0)) with
      | true =>
        rfl
      | false =>
        cases (decide ((↑(List.length x1) : Int) > (65536 : Int))) with
        | true =>
          rfl
        | false =>
          cases (decide (x0 ≠ (0 : Int))) with
          | true =>
            cases (Int.tmod (↑(List.length x1) : Int) x0 != (0 : Int)) with
            | true =>
              rfl
            | false =>
              cases (decide ((↑(List.length x2) : Int) > (64 : Int))) with
              | true =>
                rfl
              | false =>
                cases (isL (L25_0_0 FU (↑(List.length x1) : Int) (0 : Int) x0 x1 x2)) with
                | true =>
                  rfl
                | false =>
                  cases (isL (getR (L25_0_0 FU (↑(List.length x1) : Int) (0 : Int) x0 x1 x2))) with
                  | true =>
                    rfl
                  | false =>
                    cases (isL (getR (getR (L25_0_0 FU (↑(List.length x1) : Int) (0 : Int) x0 x1 x2)))) with
                    | true =>
                      rfl
                    | false =>
                      cases (ok (getR (getR (getR (L25_0_0 FU (↑(List.length x1) : Int) (0 : Int) x0 x1 x2))))) with
                      | true =>
                        rfl
                      | false =>
                        rfl
          | false =>
            rfl
def sv25 : OrcS := fun al H => match al, H with
  | [.agg [.int .i64 (x0), .d 5 (.int .u8) (x1), .d 44 (.pair (.int .i64) (.list 5 (.int .u8))) (x2)]], [] => some (ok (v25 x0 x1 x2), [.sc (.bool ((val (v25 x0 x1 x2))))], [])
  | _, _ => none
theorem wv25 : NewOrc Try.prog dOk base o2 t2 (25, sv25) := by
  intro al H q hq hq1
  have hq : sv25 al H = some q := hq
  unfold sv25 at hq
  split at hq
  · cases hq
    exact ⟨41, (ev25 _ _ _).trans (ok_bind hq1)⟩
  · cases hq
/-- queuelabref35.Few -/
def v11 (x0 : Int) (x1 : (List Int)) (x2 : (List (Int × (List Int)))) : Option Bool := (cond (isL (L11_0_0 FU (0 : Int) x0 x1 x2)) (some (getL (L11_0_0 FU (0 : Int) x0 x1 x2))) (cond (ok (getR (L11_0_0 FU (0 : Int) x0 x1 x2))) (cond (decide ((↑(List.length x1) : Int) ≤ (4000 : Int))) (some (decide ((↑(List.length x2) : Int) ≤ (80 : Int)))) (some (false))) none))
theorem ev11 (x0 : Int) (x1 : (List Int)) (x2 : (List (Int × (List Int)))) : fnBody Try.prog (mkTn base o2 t2 11) (TM.evF Try.prog (mkTn base o2 t2) dOk 40) dOk 40 11 [.agg [.int .i64 (x0), .d 5 (.int .u8) (x1), .d 44 (.pair (.int .i64) (.list 5 (.int .u8))) (x2)]] [] = (v11 x0 x1 x2).bind fun r => some ([.sc (.bool (r))], []) := by
  have h : fnBody Try.prog (mkTn base o2 t2 11) (TM.evF Try.prog (mkTn base o2 t2) dOk 40) dOk 40 11 [.agg [.int .i64 (x0), .d 5 (.int .u8) (x1), .d 44 (.pair (.int .i64) (.list 5 (.int .u8))) (x2)]] [] = (cond (isL (L11_0_0 FU (0 : Int) x0 x1 x2)) (some ([.sc (.bool (getL (L11_0_0 FU (0 : Int) x0 x1 x2)))], [])) (cond (ok (getR (L11_0_0 FU (0 : Int) x0 x1 x2))) (cond (decide ((↑(List.length x1) : Int) ≤ (4000 : Int))) (some ([.sc (.bool (decide ((↑(List.length x2) : Int) ≤ (80 : Int))))], [])) (some ([.sc (.bool (false))], []))) none)) := by kernel_rfl
  rw [h]
  unfold v11
  cases (isL (L11_0_0 FU (0 : Int) x0 x1 x2)) with
  | true =>
    rfl
  | false =>
    cases (ok (getR (L11_0_0 FU (0 : Int) x0 x1 x2))) with
    | true =>
      cases (decide ((↑(List.length x1) : Int) ≤ (4000 : Int))) with
      | true =>
        rfl
      | false =>
        rfl
    | false =>
      rfl
def sv11 : OrcS := fun al H => match al, H with
  | [.agg [.int .i64 (x0), .d 5 (.int .u8) (x1), .d 44 (.pair (.int .i64) (.list 5 (.int .u8))) (x2)]], [] => some (ok (v11 x0 x1 x2), [.sc (.bool ((val (v11 x0 x1 x2))))], [])
  | _, _ => none
theorem wv11 : NewOrc Try.prog dOk base o2 t2 (11, sv11) := by
  intro al H q hq hq1
  have hq : sv11 al H = some q := hq
  unfold sv11 at hq
  split at hq
  · cases hq
    exact ⟨41, (ev11 _ _ _).trans (ok_bind hq1)⟩
  · cases hq
/-- queuelabref35.Bytes -/
def v23 (x0 : (List Int)) (x1 : (List Int)) : Option Bool := (cond ((↑(List.length x0) : Int) != (↑(List.length x1) : Int)) (some (false)) (cond (isL (L23_0_0 FU x0 x1 (0 : Int))) (some (getL (L23_0_0 FU x0 x1 (0 : Int)))) (cond (ok (getR (L23_0_0 FU x0 x1 (0 : Int)))) (some (true)) none)))
theorem ev23 (x0 : (List Int)) (x1 : (List Int)) : fnBody Try.prog (mkTn base o2 t2 23) (TM.evF Try.prog (mkTn base o2 t2) dOk 40) dOk 40 23 [.sc (.d 5 (.int .u8) (x0)), .sc (.d 5 (.int .u8) (x1))] [] = (v23 x0 x1).bind fun r => some ([.sc (.bool (r))], []) := by
  have h : fnBody Try.prog (mkTn base o2 t2 23) (TM.evF Try.prog (mkTn base o2 t2) dOk 40) dOk 40 23 [.sc (.d 5 (.int .u8) (x0)), .sc (.d 5 (.int .u8) (x1))] [] = (cond ((↑(List.length x0) : Int) != (↑(List.length x1) : Int)) (some ([.sc (.bool (false))], [])) (cond (isL (L23_0_0 FU x0 x1 (0 : Int))) (some ([.sc (.bool (getL (L23_0_0 FU x0 x1 (0 : Int))))], [])) (cond (ok (getR (L23_0_0 FU x0 x1 (0 : Int)))) (some ([.sc (.bool (true))], [])) none))) := by kernel_rfl
  rw [h]
  unfold v23
  cases ((↑(List.length x0) : Int) != (↑(List.length x1) : Int)) with
  | true =>
    rfl
  | false =>
    cases (isL (L23_0_0 FU x0 x1 (0 : Int))) with
    | true =>
      rfl
    | false =>
      cases (ok (getR (L23_0_0 FU x0 x1 (0 : Int)))) with
      | true =>
        rfl
      | false =>
        rfl
def sv23 : OrcS := fun al H => match al, H with
  | [.sc (.d 5 (.int .u8) (x0)), .sc (.d 5 (.int .u8) (x1))], [] => some (ok (v23 x0 x1), [.sc (.bool ((val (v23 x0 x1))))], [])
  | _, _ => none
theorem wv23 : NewOrc Try.prog dOk base o2 t2 (23, sv23) := by
  intro al H q hq hq1
  have hq : sv23 al H = some q := hq
  unfold sv23 at hq
  split at hq
  · cases hq
    exact ⟨41, (ev23 _ _).trans (ok_bind hq1)⟩
  · cases hq
/-- queuelabref35.Copy -/
def v27 (x0 : Int) (x1 : (List Int)) (x2 : (List (Int × (List Int)))) : Option (List (Int × (List Int))) := (cond (decide (List.length x1 ≤ nat_lit 2147483648)) (cond (ok (L27_0_0 FU (0 : Int) x0 x1 x2 (0 : Int) x0 [] [] x1 [])) (some (val (L27_0_0 FU (0 : Int) x0 x1 x2 (0 : Int) x0 [] [] x1 []))) none) none)
theorem ev27 (x0 : Int) (x1 : (List Int)) (x2 : (List (Int × (List Int)))) : fnBody Try.prog (mkTn base o2 t2 27) (TM.evF Try.prog (mkTn base o2 t2) dOk 40) dOk 40 27 [.agg [.int .i64 (x0), .d 5 (.int .u8) (x1), .d 44 (.pair (.int .i64) (.list 5 (.int .u8))) (x2)]] [] = (v27 x0 x1 x2).bind fun r => some ([.agg [.int .i64 (x0), .g 0, .g 1]], [.row 5 (.int .u8) (x1), .row 44 (.pair (.int .i64) (.list 5 (.int .u8))) (r)]) := by
  have h : fnBody Try.prog (mkTn base o2 t2 27) (TM.evF Try.prog (mkTn base o2 t2) dOk 40) dOk 40 27 [.agg [.int .i64 (x0), .d 5 (.int .u8) (x1), .d 44 (.pair (.int .i64) (.list 5 (.int .u8))) (x2)]] [] = (cond (decide (List.length x1 ≤ nat_lit 2147483648)) (cond (ok (L27_0_0 FU (0 : Int) x0 x1 x2 (0 : Int) x0 [] [] x1 [])) (some ([.agg [.int .i64 (x0), .g 0, .g 1]], [.row 5 (.int .u8) (x1), .row 44 (.pair (.int .i64) (.list 5 (.int .u8))) (val (L27_0_0 FU (0 : Int) x0 x1 x2 (0 : Int) x0 [] [] x1 []))])) none) none) := by kernel_rfl
  rw [h]
  unfold v27
  cases (decide (List.length x1 ≤ nat_lit 2147483648)) with
  | true =>
    cases (ok (L27_0_0 FU (0 : Int) x0 x1 x2 (0 : Int) x0 [] [] x1 [])) with
    | true =>
      rfl
    | false =>
      rfl
  | false =>
    rfl
def sv27 : OrcS := fun al H => match al, H with
  | [.agg [.int .i64 (x0), .d 5 (.int .u8) (x1), .d 44 (.pair (.int .i64) (.list 5 (.int .u8))) (x2)]], [] => some (ok (v27 x0 x1 x2), [.agg [.int .i64 (x0), .g 0, .g 1]], [.row 5 (.int .u8) (x1), .row 44 (.pair (.int .i64) (.list 5 (.int .u8))) ((val (v27 x0 x1 x2)))])
  | _, _ => none
theorem wv27 : NewOrc Try.prog dOk base o2 t2 (27, sv27) := by
  intro al H q hq hq1
  have hq : sv27 al H = some q := hq
  unfold sv27 at hq
  split at hq
  · cases hq
    exact ⟨41, (ev27 _ _ _).trans (ok_bind hq1)⟩
  · cases hq
def o3 : OrcT := (25, sv25) :: (11, sv11) :: (23, sv23) :: (27, sv27) :: o2
def t3 : TellT := t2
abbrev tn3 : FuncId → TAn := mkTn base o3 t3
theorem ok3 : TnOk Try.prog tn3 (mkA base) dOk := by
  have h0 : TnOk Try.prog (mkTn base o2 t2) (mkA base) dOk := ok2
  have h1 := tn_orc h0 h0 (p := (27, sv27)) wv27
  have h2 := tn_orc h0 h1 (p := (23, sv23)) wv23
  have h3 := tn_orc h0 h2 (p := (11, sv11)) wv11
  have h4 := tn_orc h0 h3 (p := (25, sv25)) wv25
  exact h4
end Go.Proofs.Ytchgjjgdgbecmaa
set_option maxRecDepth 1000000
set_option linter.unusedVariables false
set_option maxHeartbeats 4000000
namespace Go.Proofs.Ytchgjjgdgbecmaa
open Go Go.AM Go.TM Go.Proofs
/-- queuelabref35.Write -/
def v13 (x0 : Int) (x1 : (List Int)) (x2 : (List (Int × (List Int)))) (x3 : Int) (x4 : (List Int)) : Option (Int × (List Int) × (List (Int × (List Int))) × Int) := (cond (ok (v25 x0 x1 x2)) (cond (!val (v25 x0 x1 x2)) (some ((0 : Int), [], [], (1 : Int))) (cond (decide (x3 < (0 : Int))) (some ((0 : Int), [], [], (1 : Int))) (cond (decide (x0 ≠ (0 : Int))) (cond (decide (x3 ≥ IntKind.wrap IntKind.i64 (Int.tdiv (↑(List.length x1) : Int) x0))) (some ((0 : Int), [], [], (1 : Int))) (cond ((↑(List.length x4) : Int) != x0) (some ((0 : Int), [], [], (1 : Int))) (cond (decide ((↑(List.length x2) : Int) ≥ (64 : Int))) (some ((0 : Int), [], [], (10 : Int))) (cond (ok (v27 x0 x1 x2)) (cond (decide (List.length x4 ≤ nat_lit 2147483648)) (cond (decide (List.length (val (v27 x0 x1 x2)) + List.length [(x3, x4)] ≤ nat_lit 2147483648)) (some (x0, x1, val (v27 x0 x1 x2) ++ [(x3, x4)], (0 : Int))) none) none) none)))) none))) none)
theorem ev13 (x0 : Int) (x1 : (List Int)) (x2 : (List (Int × (List Int)))) (x3 : Int) (x4 : (List Int)) : fnBody Try.prog (mkTn base o3 t3 13) (TM.evF Try.prog (mkTn base o3 t3) dOk 40) dOk 40 13 [.agg [.int .i64 (x0), .d 5 (.int .u8) (x1), .d 44 (.pair (.int .i64) (.list 5 (.int .u8))) (x2)], .sc (.int .i64 (x3)), .sc (.d 5 (.int .u8) (x4))] [] = (v13 x0 x1 x2 x3 x4).bind fun r => some ([.agg [.int .i64 (r.1), .d 5 (.int .u8) (r.2.1), .d 44 (.pair (.int .i64) (.list 5 (.int .u8))) (r.2.2.1)], .sc (.int .i64 (r.2.2.2))], []) := by
  have h : fnBody Try.prog (mkTn base o3 t3 13) (TM.evF Try.prog (mkTn base o3 t3) dOk 40) dOk 40 13 [.agg [.int .i64 (x0), .d 5 (.int .u8) (x1), .d 44 (.pair (.int .i64) (.list 5 (.int .u8))) (x2)], .sc (.int .i64 (x3)), .sc (.d 5 (.int .u8) (x4))] [] = (cond (ok (v25 x0 x1 x2)) (cond (!val (v25 x0 x1 x2)) (some ([.agg [.int .i64 ((0 : Int)), .d 5 (.int .u8) ([]), .d 44 (.pair (.int .i64) (.list 5 (.int .u8))) ([])], .sc (.int .i64 ((1 : Int)))], [])) (cond (decide (x3 < (0 : Int))) (some ([.agg [.int .i64 ((0 : Int)), .d 5 (.int .u8) ([]), .d 44 (.pair (.int .i64) (.list 5 (.int .u8))) ([])], .sc (.int .i64 ((1 : Int)))], [])) (cond (decide (x0 ≠ (0 : Int))) (cond (decide (x3 ≥ IntKind.wrap IntKind.i64 (Int.tdiv (↑(List.length x1) : Int) x0))) (some ([.agg [.int .i64 ((0 : Int)), .d 5 (.int .u8) ([]), .d 44 (.pair (.int .i64) (.list 5 (.int .u8))) ([])], .sc (.int .i64 ((1 : Int)))], [])) (cond ((↑(List.length x4) : Int) != x0) (some ([.agg [.int .i64 ((0 : Int)), .d 5 (.int .u8) ([]), .d 44 (.pair (.int .i64) (.list 5 (.int .u8))) ([])], .sc (.int .i64 ((1 : Int)))], [])) (cond (decide ((↑(List.length x2) : Int) ≥ (64 : Int))) (some ([.agg [.int .i64 ((0 : Int)), .d 5 (.int .u8) ([]), .d 44 (.pair (.int .i64) (.list 5 (.int .u8))) ([])], .sc (.int .i64 ((10 : Int)))], [])) (cond (ok (v27 x0 x1 x2)) (cond (decide (List.length x4 ≤ nat_lit 2147483648)) (cond (decide (List.length (val (v27 x0 x1 x2)) + List.length [(x3, x4)] ≤ nat_lit 2147483648)) (some ([.agg [.int .i64 (x0), .d 5 (.int .u8) (x1), .d 44 (.pair (.int .i64) (.list 5 (.int .u8))) (val (v27 x0 x1 x2) ++ [(x3, x4)])], .sc (.int .i64 ((0 : Int)))], [])) none) none) none)))) none))) none) := by kernel_rfl
  rw [h]
  unfold v13
  cases (ok (v25 x0 x1 x2)) with
  | true =>
    cases (!val (v25 x0 x1 x2)) with
    | true =>
      rfl
    | false =>
      cases (decide (x3 < (0 : Int))) with
      | true =>
        rfl
      | false =>
        cases (decide (x0 ≠ (0 : Int))) with
        | true =>
          cases (decide (x3 ≥ IntKind.wrap IntKind.i64 (Int.tdiv (↑(List.length x1) : Int) x0))) with
          | true =>
            rfl
          | false =>
            cases ((↑(List.length x4) : Int) != x0) with
            | true =>
              rfl
            | false =>
              cases (decide ((↑(List.length x2) : Int) ≥ (64 : Int))) with
              | true =>
                rfl
              | false =>
                cases (ok (v27 x0 x1 x2)) with
                | true =>
                  cases (decide (List.length x4 ≤ nat_lit 2147483648)) with
                  | true =>
                    cases (decide (List.length (val (v27 x0 x1 x2)) + List.length [(x3, x4)] ≤ nat_lit 2147483648)) with
                    | true =>
                      rfl
                    | false =>
                      rfl
                  | false =>
                    rfl
                | false =>
                  rfl
        | false =>
          rfl
  | false =>
    rfl
def sv13 : OrcS := fun al H => match al, H with
  | [.agg [.int .i64 (x0), .d 5 (.int .u8) (x1), .d 44 (.pair (.int .i64) (.list 5 (.int .u8))) (x2)], .sc (.int .i64 (x3)), .sc (.d 5 (.int .u8) (x4))], [] => some (ok (v13 x0 x1 x2 x3 x4), [.agg [.int .i64 ((val (v13 x0 x1 x2 x3 x4)).1), .d 5 (.int .u8) ((val (v13 x0 x1 x2 x3 x4)).2.1), .d 44 (.pair (.int .i64) (.list 5 (.int .u8))) ((val (v13 x0 x1 x2 x3 x4)).2.2.1)], .sc (.int .i64 ((val (v13 x0 x1 x2 x3 x4)).2.2.2))], [])
  | _, _ => none
theorem wv13 : NewOrc Try.prog dOk base o3 t3 (13, sv13) := by
  intro al H q hq hq1
  have hq : sv13 al H = some q := hq
  unfold sv13 at hq
  split at hq
  · cases hq
    exact ⟨41, (ev13 _ _ _ _ _).trans (ok_bind hq1)⟩
  · cases hq
def o4 : OrcT := (13, sv13) :: o3
def t4 : TellT := t3
abbrev tn4 : FuncId → TAn := mkTn base o4 t4
theorem ok4 : TnOk Try.prog tn4 (mkA base) dOk := by
  have h0 : TnOk Try.prog (mkTn base o3 t3) (mkA base) dOk := ok3
  have h1 := tn_orc h0 h0 (p := (13, sv13)) wv13
  exact h1
end Go.Proofs.Ytchgjjgdgbecmaa
set_option maxRecDepth 1000000
set_option linter.unusedVariables false
set_option maxHeartbeats 4000000
namespace Go.Proofs.Ytchgjjgdgbecmaa
open Go Go.AM Go.TM Go.Proofs
/-- queuelabref35.Same: the loop 0 -/
def L22_0_0 : Nat → Int → Int → (List Int) → (List (Int × (List Int))) → Int → (List Int) → (List (Int × (List Int))) → Option (Bool ⊕ (Bool ⊕ Unit))
  | 0, _, _, _, _, _, _, _ => none
  | n + 1, x0, x1, x2, x3, x4, x5, x6 => (cond (decide (x0 < (↑(List.length x3) : Int))) (cond (decide ((0 : Int) ≤ x0)) (cond (decide (x0 < (↑(List.length x6) : Int))) (cond (Prod.fst (List.getD x3 (Int.toNat x0) ((0 : Int), [])) != Prod.fst (List.getD x6 (Int.toNat x0) ((0 : Int), []))) (some (.inl (false))) (cond (ok (v23 (Prod.snd (List.getD x3 (Int.toNat x0) ((0 : Int), []))) (Prod.snd (List.getD x6 (Int.toNat x0) ((0 : Int), []))))) (cond (!val (v23 (Prod.snd (List.getD x3 (Int.toNat x0) ((0 : Int), []))) (Prod.snd (List.getD x6 (Int.toNat x0) ((0 : Int), []))))) (some (.inr (.inl (false)))) (L22_0_0 n (IntKind.wrap IntKind.i64 (x0 + (1 : Int))) (x1) (x2) (x3) (x4) (x5) (x6))) none)) none) none) (some (.inr (.inr ()))))
theorem qL22_0_0 (n : Nat) (x0 : Int) (x1 : Int) (x2 : (List Int)) (x3 : (List (Int × (List Int)))) (x4 : Int) (x5 : (List Int)) (x6 : (List (Int × (List Int)))) : L22_0_0 (n + 1) x0 x1 x2 x3 x4 x5 x6 = (cond (decide (x0 < (↑(List.length x3) : Int))) (cond (decide ((0 : Int) ≤ x0)) (cond (decide (x0 < (↑(List.length x6) : Int))) (cond (Prod.fst (List.getD x3 (Int.toNat x0) ((0 : Int), [])) != Prod.fst (List.getD x6 (Int.toNat x0) ((0 : Int), []))) (some (.inl (false))) (cond (ok (v23 (Prod.snd (List.getD x3 (Int.toNat x0) ((0 : Int), []))) (Prod.snd (List.getD x6 (Int.toNat x0) ((0 : Int), []))))) (cond (!val (v23 (Prod.snd (List.getD x3 (Int.toNat x0) ((0 : Int), []))) (Prod.snd (List.getD x6 (Int.toNat x0) ((0 : Int), []))))) (some (.inr (.inl (false)))) (L22_0_0 n (IntKind.wrap IntKind.i64 (x0 + (1 : Int))) (x1) (x2) (x3) (x4) (x5) (x6))) none)) none) none) (some (.inr (.inr ())))) := by rfl
def xL22_0_0 (x0 : Int) (x1 : Int) (x2 : (List Int)) (x3 : (List (Int × (List Int)))) (x4 : Int) (x5 : (List Int)) (x6 : (List (Int × (List Int)))) : (Bool ⊕ (Bool ⊕ Unit)) → Ex × CS := fun r => match r with | .inl a0 => (.ret, { sl := [(2, .l 2 0), (3, .l 3 0), (4, .v (.sc (.bool (a0)))), (29, .l 2 2), (35, .l 2 2), (41, .l 3 2)], lo := [], h := [], n0 := 0 }) | .inr b0 => match b0 with | .inl a1 => (.ret, { sl := [(2, .l 2 0), (3, .l 3 0), (4, .v (.sc (.bool (a1)))), (29, .l 2 2), (35, .l 2 2), (41, .l 3 2), (49, .l 2 2), (55, .l 3 2)], lo := [], h := [], n0 := 0 }) | .inr b1 => ((.exit 0), { sl := [(2, .l 2 0), (3, .l 3 0), (29, .l 2 2)], lo := [], h := [], n0 := 0 })
theorem bL22_0_0 (k : Nat) (cN : CS → Option (Ex × CS)) (cX : Ex → CS → Option (Ex × CS)) (x0 : Int) (x1 : Int) (x2 : (List Int)) (x3 : (List (Int × (List Int)))) (x4 : Int) (x5 : (List Int)) (x6 : (List (Int × (List Int)))) : loopBody Try.prog (mkTn base o4 t4 22) (TM.evF Try.prog (mkTn base o4 t4) dOk (k + 40)) dOk (k + 40) (codeAt Try.prog (tn0 22) 22 0) 0 0 { sl := [(2, .l 2 0), (3, .l 3 0), (5, .v (.sc (.int .i64 (x0))))], lo := [(2, [.int .i64 (x1), .d 5 (.int .u8) (x2), .d 44 (.pair (.int .i64) (.list 5 (.int .u8))) (x3)]), (3, [.int .i64 (x4), .d 5 (.int .u8) (x5), .d 44 (.pair (.int .i64) (.list 5 (.int .u8))) (x6)])], h := [], n0 := 0 } cN cX = (cond (decide (x0 < (↑(List.length x3) : Int))) (cond (decide ((0 : Int) ≤ x0)) (cond (decide (x0 < (↑(List.length x3) : Int))) (cond (decide ((0 : Int) ≤ x0)) (cond (decide (x0 < (↑(List.length x6) : Int))) (cond (Prod.fst (List.getD x3 (Int.toNat x0) ((0 : Int), [])) != Prod.fst (List.getD x6 (Int.toNat x0) ((0 : Int), []))) (cX .ret { sl := [(2, .l 2 0), (3, .l 3 0), (4, .v (.sc (.bool (false)))), (29, .l 2 2), (35, .l 2 2), (41, .l 3 2)], lo := [], h := [], n0 := 0 }) (cond (decide ((0 : Int) ≤ x0)) (cond (decide (x0 < (↑(List.length x3) : Int))) (cond (decide ((0 : Int) ≤ x0)) (cond (decide (x0 < (↑(List.length x6) : Int))) (cond (ok (v23 (Prod.snd (List.getD x3 (Int.toNat x0) ((0 : Int), []))) (Prod.snd (List.getD x6 (Int.toNat x0) ((0 : Int), []))))) (cond (!val (v23 (Prod.snd (List.getD x3 (Int.toNat x0) ((0 : Int), []))) (Prod.snd (List.getD x6 (Int.toNat x0) ((0 : Int), []))))) (cX .ret { sl := [(2, .l 2 0), (3, .l 3 0), (4, .v (.sc (.bool (false)))), (29, .l 2 2), (35, .l 2 2), (41, .l 3 2), (49, .l 2 2), (55, .l 3 2)], lo := [], h := [], n0 := 0 }) (cN { sl := [(2, .l 2 0), (3, .l 3 0), (5, .v (.sc (.int .i64 (IntKind.wrap IntKind.i64 (x0 + (1 : Int))))))], lo := [(2, [.int .i64 (x1), .d 5 (.int .u8) (x2), .d 44 (.pair (.int .i64) (.list 5 (.int .u8))) (x3)]), (3, [.int .i64 (x4), .d 5 (.int .u8) (x5), .d 44 (.pair (.int .i64) (.list 5 (.int .u8))) (x6)])], h := [], n0 := 0 })) none) none) none) none) none)) none) none) none) none) (cX (.exit 0) { sl := [(2, .l 2 0), (3, .l 3 0), (29, .l 2 2)], lo := [], h := [], n0 := 0 })) := by kernel_rfl
theorem lL22_0_0 (k m : Nat) : ∀ (n : Nat) (x0 : Int) (x1 : Int) (x2 : (List Int)) (x3 : (List (Int × (List Int)))) (x4 : Int) (x5 : (List Int)) (x6 : (List (Int × (List Int)))) (r : (Bool ⊕ (Bool ⊕ Unit))), L22_0_0 n x0 x1 x2 x3 x4 x5 x6 = some r → loopE Try.prog (mkTn base o4 t4 22) (TM.evF Try.prog (mkTn base o4 t4) dOk (k + 40)) dOk (k + 40) (codeAt Try.prog (tn0 22) 22 0) 0 0 (n + m) { sl := [(2, .l 2 0), (3, .l 3 0), (5, .v (.sc (.int .i64 (x0))))], lo := [(2, [.int .i64 (x1), .d 5 (.int .u8) (x2), .d 44 (.pair (.int .i64) (.list 5 (.int .u8))) (x3)]), (3, [.int .i64 (x4), .d 5 (.int .u8) (x5), .d 44 (.pair (.int .i64) (.list 5 (.int .u8))) (x6)])], h := [], n0 := 0 } = some (xL22_0_0 x0 x1 x2 x3 x4 x5 x6 r) := by
  intro n
  induction n with
  | zero => intro _ _ _ _ _ _ _ r h; cases h
  | succ n ih =>
    intro x0 x1 x2 x3 x4 x5 x6 r
    rw [show n + 1 + m = n + m + 1 by omega, loop_step, bL22_0_0, qL22_0_0]
    cases (decide (x0 < (↑(List.length x3) : Int))) with
    | true =>
      cases (decide ((0 : Int) ≤ x0)) with
      | true =>
        cases (decide (x0 < (↑(List.length x6) : Int))) with
        | true =>
          cases (Prod.fst (List.getD x3 (Int.toNat x0) ((0 : Int), [])) != Prod.fst (List.getD x6 (Int.toNat x0) ((0 : Int), []))) with
          | true =>
            intro h; cases h; rfl
          | false =>
            cases (ok (v23 (Prod.snd (List.getD x3 (Int.toNat x0) ((0 : Int), []))) (Prod.snd (List.getD x6 (Int.toNat x0) ((0 : Int), []))))) with
            | true =>
              cases (!val (v23 (Prod.snd (List.getD x3 (Int.toNat x0) ((0 : Int), []))) (Prod.snd (List.getD x6 (Int.toNat x0) ((0 : Int), []))))) with
              | true =>
                intro h; cases h; rfl
              | false =>
                exact ih _ _ _ _ _ _ _ r
            | false =>
              intro h; cases h
        | false =>
          intro h; cases h
      | false =>
        intro h; cases h
    | false =>
      intro h; cases h; rfl
def sL22_0_0 : TellS := fun S => match S with
  | { sl := [(2, .l 2 0), (3, .l 3 0), (5, .v (.sc (.int .i64 (x0))))], lo := [(2, [.int .i64 (x1), .d 5 (.int .u8) (x2), .d 44 (.pair (.int .i64) (.list 5 (.int .u8))) (x3)]), (3, [.int .i64 (x4), .d 5 (.int .u8) (x5), .d 44 (.pair (.int .i64) (.list 5 (.int .u8))) (x6)])], h := [], n0 := 0 } => some [(isL (L22_0_0 FU x0 x1 x2 x3 x4 x5 x6), .ret, { sl := [(2, .l 2 0), (3, .l 3 0), (4, .v (.sc (.bool ((getL (L22_0_0 FU x0 x1 x2 x3 x4 x5 x6)))))), (29, .l 2 2), (35, .l 2 2), (41, .l 3 2)], lo := [], h := [], n0 := 0 }), (isL (getR (L22_0_0 FU x0 x1 x2 x3 x4 x5 x6)), .ret, { sl := [(2, .l 2 0), (3, .l 3 0), (4, .v (.sc (.bool ((getL (getR (L22_0_0 FU x0 x1 x2 x3 x4 x5 x6))))))), (29, .l 2 2), (35, .l 2 2), (41, .l 3 2), (49, .l 2 2), (55, .l 3 2)], lo := [], h := [], n0 := 0 }), (ok (getR (getR (L22_0_0 FU x0 x1 x2 x3 x4 x5 x6))), (.exit 0), { sl := [(2, .l 2 0), (3, .l 3 0), (29, .l 2 2)], lo := [], h := [], n0 := 0 })]
  | _ => none
theorem wL22_0_0 : NewTell Try.prog dOk base o4 t4 ((22, 0), sL22_0_0) := by
  refine ⟨.loop (codeAt Try.prog (tn0 22) 22 0), 0, by kernel_rfl, ?_⟩
  intro S alts e S' h1 h2
  have h1 : sL22_0_0 S = some alts := h1
  unfold sL22_0_0 at h1
  split at h1
  · cases h1
    rcases pick_cons h2 with ⟨hc0, rfl, rfl⟩ | h2
    · exact ⟨FU + 40, (evPiece_loop rfl).trans (lL22_0_0 FU 40 FU _ _ _ _ _ _ _ _ (isL_val hc0))⟩
    rcases pick_cons h2 with ⟨hc1, rfl, rfl⟩ | h2
    · exact ⟨FU + 40, (evPiece_loop rfl).trans (lL22_0_0 FU 40 FU _ _ _ _ _ _ _ _ (getR_val (isL_val hc1)))⟩
    obtain ⟨hc2, rfl, rfl⟩ := pick_one h2
    exact ⟨FU + 40, (evPiece_loop rfl).trans (lL22_0_0 FU 40 FU _ _ _ _ _ _ _ _ (getR_val (getR_val (ok_val hc2))))⟩
  · cases h1
def o5 : OrcT := o4
def t5 : TellT := ((22, 0), sL22_0_0) :: t4
abbrev tn5 : FuncId → TAn := mkTn base o5 t5
theorem ok5 : TnOk Try.prog tn5 (mkA base) dOk := by
  have h0 : TnOk Try.prog (mkTn base o4 t4) (mkA base) dOk := ok4
  have h1 := tn_tell h0 h0 (p := ((22, 0), sL22_0_0)) wL22_0_0
  exact h1
end Go.Proofs.Ytchgjjgdgbecmaa
set_option maxRecDepth 1000000
set_option linter.unusedVariables false
set_option maxHeartbeats 4000000
namespace Go.Proofs.Ytchgjjgdgbecmaa
open Go Go.AM Go.TM Go.Proofs
/-- queuelabref35.Same -/
def v22 (x0 : Int) (x1 : (List Int)) (x2 : (List (Int × (List Int)))) (x3 : Int) (x4 : (List Int)) (x5 : (List (Int × (List Int)))) : Option Bool := (cond (x0 != x3) (some (false)) (cond (ok (v23 x1 x4)) (cond (!val (v23 x1 x4)) (some (false)) (cond ((↑(List.length x2) : Int) != (↑(List.length x5) : Int)) (some (false)) (cond (isL (L22_0_0 FU (0 : Int) x0 x1 x2 x3 x4 x5)) (some (getL (L22_0_0 FU (0 : Int) x0 x1 x2 x3 x4 x5))) (cond (isL (getR (L22_0_0 FU (0 : Int) x0 x1 x2 x3 x4 x5))) (some (getL (getR (L22_0_0 FU (0 : Int) x0 x1 x2 x3 x4 x5)))) (cond (ok (getR (getR (L22_0_0 FU (0 : Int) x0 x1 x2 x3 x4 x5)))) (some (true)) none))))) none))
theorem ev22 (x0 : Int) (x1 : (List Int)) (x2 : (List (Int × (List Int)))) (x3 : Int) (x4 : (List Int)) (x5 : (List (Int × (List Int)))) : fnBody Try.prog (mkTn base o5 t5 22) (TM.evF Try.prog (mkTn base o5 t5) dOk 40) dOk 40 22 [.agg [.int .i64 (x0), .d 5 (.int .u8) (x1), .d 44 (.pair (.int .i64) (.list 5 (.int .u8))) (x2)], .agg [.int .i64 (x3), .d 5 (.int .u8) (x4), .d 44 (.pair (.int .i64) (.list 5 (.int .u8))) (x5)]] [] = (v22 x0 x1 x2 x3 x4 x5).bind fun r => some ([.sc (.bool (r))], []) := by
  have h : fnBody Try.prog (mkTn base o5 t5 22) (TM.evF Try.prog (mkTn base o5 t5) dOk 40) dOk 40 22 [.agg [.int .i64 (x0), .d 5 (.int .u8) (x1), .d 44 (.pair (.int .i64) (.list 5 (.int .u8))) (x2)], .agg [.int .i64 (x3), .d 5 (.int .u8) (x4), .d 44 (.pair (.int .i64) (.list 5 (.int .u8))) (x5)]] [] = (cond (x0 != x3) (some ([.sc (.bool (false))], [])) (cond (ok (v23 x1 x4)) (cond (!val (v23 x1 x4)) (some ([.sc (.bool (false))], [])) (cond ((↑(List.length x2) : Int) != (↑(List.length x5) : Int)) (some ([.sc (.bool (false))], [])) (cond (isL (L22_0_0 FU (0 : Int) x0 x1 x2 x3 x4 x5)) (some ([.sc (.bool (getL (L22_0_0 FU (0 : Int) x0 x1 x2 x3 x4 x5)))], [])) (cond (isL (getR (L22_0_0 FU (0 : Int) x0 x1 x2 x3 x4 x5))) (some ([.sc (.bool (getL (getR (L22_0_0 FU (0 : Int) x0 x1 x2 x3 x4 x5))))], [])) (cond (ok (getR (getR (L22_0_0 FU (0 : Int) x0 x1 x2 x3 x4 x5)))) (some ([.sc (.bool (true))], [])) none))))) none)) := by kernel_rfl
  rw [h]
  unfold v22
  cases (x0 != x3) with
  | true =>
    rfl
  | false =>
    cases (ok (v23 x1 x4)) with
    | true =>
      cases (!val (v23 x1 x4)) with
      | true =>
        rfl
      | false =>
        cases ((↑(List.length x2) : Int) != (↑(List.length x5) : Int)) with
        | true =>
          rfl
        | false =>
          cases (isL (L22_0_0 FU (0 : Int) x0 x1 x2 x3 x4 x5)) with
          | true =>
            rfl
          | false =>
            cases (isL (getR (L22_0_0 FU (0 : Int) x0 x1 x2 x3 x4 x5))) with
            | true =>
              rfl
            | false =>
              cases (ok (getR (getR (L22_0_0 FU (0 : Int) x0 x1 x2 x3 x4 x5)))) with
              | true =>
                rfl
              | false =>
                rfl
    | false =>
      rfl
def sv22 : OrcS := fun al H => match al, H with
  | [.agg [.int .i64 (x0), .d 5 (.int .u8) (x1), .d 44 (.pair (.int .i64) (.list 5 (.int .u8))) (x2)], .agg [.int .i64 (x3), .d 5 (.int .u8) (x4), .d 44 (.pair (.int .i64) (.list 5 (.int .u8))) (x5)]], [] => some (ok (v22 x0 x1 x2 x3 x4 x5), [.sc (.bool ((val (v22 x0 x1 x2 x3 x4 x5))))], [])
  | _, _ => none
theorem wv22 : NewOrc Try.prog dOk base o5 t5 (22, sv22) := by
  intro al H q hq hq1
  have hq : sv22 al H = some q := hq
  unfold sv22 at hq
  split at hq
  · cases hq
    exact ⟨41, (ev22 _ _ _ _ _ _).trans (ok_bind hq1)⟩
  · cases hq
/-- queuelabref35.Crash: the loop 16 -/
def L17_16_0 : Nat → (List Bool) → Int → Int → Int → Int → Int → Int → (List Int) → (List (Int × (List Int))) → Int → Int → Int → (List Int) → (List Int) → (List (Int × (List Int))) → (List Int) → (List (Int × (List Int))) → Option (List Int)
  | 0, _, _, _, _, _, _, _, _, _, _, _, _, _, _, _, _, _ => none
  | n + 1, x0, x1, x2, x3, x4, x5, x6, x7, x8, x9, x10, x11, x12, x13, x14, x15, x16 => (cond (decide (x5 < x4)) (cond (decide ((0 : Int) ≤ x5)) (cond (decide (x5 < (↑(List.length x12) : Int))) (cond (decide ((0 : Int) ≤ IntKind.wrap IntKind.i64 (IntKind.wrap IntKind.i64 (x11 * x6) + x5))) (cond (decide (IntKind.wrap IntKind.i64 (IntKind.wrap IntKind.i64 (x11 * x6) + x5) < (↑(List.length x15) : Int))) (cond (decide (Int.toNat (IntKind.wrap IntKind.i64 (IntKind.wrap IntKind.i64 (x11 * x6) + x5)) < List.length x15)) (L17_16_0 n (x0) (x1) (x2) (x3) (x4) (IntKind.wrap IntKind.i64 (x5 + (1 : Int))) (x6) (x7) (x8) (x9) (x10) (x11) (x12) (x13) (x14) (List.set x15 (Int.toNat (IntKind.wrap IntKind.i64 (IntKind.wrap IntKind.i64 (x11 * x6) + x5))) (List.getD x12 (Int.toNat x5) (0 : Int))) (x16)) none) none) none) none) none) (some (x15)))
theorem qL17_16_0 (n : Nat) (x0 : (List Bool)) (x1 : Int) (x2 : Int) (x3 : Int) (x4 : Int) (x5 : Int) (x6 : Int) (x7 : (List Int)) (x8 : (List (Int × (List Int)))) (x9 : Int) (x10 : Int) (x11 : Int) (x12 : (List Int)) (x13 : (List Int)) (x14 : (List (Int × (List Int)))) (x15 : (List Int)) (x16 : (List (Int × (List Int)))) : L17_16_0 (n + 1) x0 x1 x2 x3 x4 x5 x6 x7 x8 x9 x10 x11 x12 x13 x14 x15 x16 = (cond (decide (x5 < x4)) (cond (decide ((0 : Int) ≤ x5)) (cond (decide (x5 < (↑(List.length x12) : Int))) (cond (decide ((0 : Int) ≤ IntKind.wrap IntKind.i64 (IntKind.wrap IntKind.i64 (x11 * x6) + x5))) (cond (decide (IntKind.wrap IntKind.i64 (IntKind.wrap IntKind.i64 (x11 * x6) + x5) < (↑(List.length x15) : Int))) (cond (decide (Int.toNat (IntKind.wrap IntKind.i64 (IntKind.wrap IntKind.i64 (x11 * x6) + x5)) < List.length x15)) (L17_16_0 n (x0) (x1) (x2) (x3) (x4) (IntKind.wrap IntKind.i64 (x5 + (1 : Int))) (x6) (x7) (x8) (x9) (x10) (x11) (x12) (x13) (x14) (List.set x15 (Int.toNat (IntKind.wrap IntKind.i64 (IntKind.wrap IntKind.i64 (x11 * x6) + x5))) (List.getD x12 (Int.toNat x5) (0 : Int))) (x16)) none) none) none) none) none) (some (x15))) := by rfl
def xL17_16_0 (x0 : (List Bool)) (x1 : Int) (x2 : Int) (x3 : Int) (x4 : Int) (x5 : Int) (x6 : Int) (x7 : (List Int)) (x8 : (List (Int × (List Int)))) (x9 : Int) (x10 : Int) (x11 : Int) (x12 : (List Int)) (x13 : (List Int)) (x14 : (List (Int × (List Int)))) (x15 : (List Int)) (x16 : (List (Int × (List Int)))) : (List Int) → Ex × CS := fun r => ((.exit 2), { sl := [(1, .v (.sc (.d 4 .bool (x0)))), (2, .v (.sc (.int .i64 (x1)))), (3, .v (.sc (.int .i64 (x2)))), (4, .l 4 0), (8, .l 8 0), (10, .l 10 0), (11, .v (.sc (.int .i64 (x3)))), (13, .l 13 0)], lo := [(4, [.int .i64 (x6), .d 5 (.int .u8) (x7), .d 44 (.pair (.int .i64) (.list 5 (.int .u8))) (x8)]), (8, [.int .i64 (x9), .g 0, .g 1]), (10, [.int .i64 (x10), .g 2, .g 3])], h := [.row 5 (.int .u8) (x13), .row 44 (.pair (.int .i64) (.list 5 (.int .u8))) (x14), .row 5 (.int .u8) (r), .row 44 (.pair (.int .i64) (.list 5 (.int .u8))) (x16)], n0 := 0 })
theorem bL17_16_0 (k : Nat) (cN : CS → Option (Ex × CS)) (cX : Ex → CS → Option (Ex × CS)) (x0 : (List Bool)) (x1 : Int) (x2 : Int) (x3 : Int) (x4 : Int) (x5 : Int) (x6 : Int) (x7 : (List Int)) (x8 : (List (Int × (List Int)))) (x9 : Int) (x10 : Int) (x11 : Int) (x12 : (List Int)) (x13 : (List Int)) (x14 : (List (Int × (List Int)))) (x15 : (List Int)) (x16 : (List (Int × (List Int)))) : loopBody Try.prog (mkTn base o5 t5 17) (TM.evF Try.prog (mkTn base o5 t5) dOk (k + 40)) dOk (k + 40) (codeAt Try.prog (tn0 17) 17 16) 2 16 { sl := [(1, .v (.sc (.d 4 .bool (x0)))), (2, .v (.sc (.int .i64 (x1)))), (3, .v (.sc (.int .i64 (x2)))), (4, .l 4 0), (8, .l 8 0), (10, .l 10 0), (11, .v (.sc (.int .i64 (x3)))), (12, .v (.sc (.int .i64 (x4)))), (13, .l 13 0), (14, .v (.sc (.int .i64 (x5))))], lo := [(4, [.int .i64 (x6), .d 5 (.int .u8) (x7), .d 44 (.pair (.int .i64) (.list 5 (.int .u8))) (x8)]), (8, [.int .i64 (x9), .g 0, .g 1]), (10, [.int .i64 (x10), .g 2, .g 3]), (13, [.int .i64 (x11), .d 5 (.int .u8) (x12)])], h := [.row 5 (.int .u8) (x13), .row 44 (.pair (.int .i64) (.list 5 (.int .u8))) (x14), .row 5 (.int .u8) (x15), .row 44 (.pair (.int .i64) (.list 5 (.int .u8))) (x16)], n0 := 0 } cN cX = (cond (decide (x5 < x4)) (cond (decide ((0 : Int) ≤ x5)) (cond (decide (x5 < (↑(List.length x12) : Int))) (cond (decide ((0 : Int) ≤ IntKind.wrap IntKind.i64 (IntKind.wrap IntKind.i64 (x11 * x6) + x5))) (cond (decide (IntKind.wrap IntKind.i64 (IntKind.wrap IntKind.i64 (x11 * x6) + x5) < (↑(List.length x15) : Int))) (cond (decide (Int.toNat (IntKind.wrap IntKind.i64 (IntKind.wrap IntKind.i64 (x11 * x6) + x5)) < List.length x15)) (cN { sl := [(1, .v (.sc (.d 4 .bool (x0)))), (2, .v (.sc (.int .i64 (x1)))), (3, .v (.sc (.int .i64 (x2)))), (4, .l 4 0), (8, .l 8 0), (10, .l 10 0), (11, .v (.sc (.int .i64 (x3)))), (12, .v (.sc (.int .i64 (x4)))), (13, .l 13 0), (14, .v (.sc (.int .i64 (IntKind.wrap IntKind.i64 (x5 + (1 : Int))))))], lo := [(4, [.int .i64 (x6), .d 5 (.int .u8) (x7), .d 44 (.pair (.int .i64) (.list 5 (.int .u8))) (x8)]), (8, [.int .i64 (x9), .g 0, .g 1]), (10, [.int .i64 (x10), .g 2, .g 3]), (13, [.int .i64 (x11), .d 5 (.int .u8) (x12)])], h := [.row 5 (.int .u8) (x13), .row 44 (.pair (.int .i64) (.list 5 (.int .u8))) (x14), .row 5 (.int .u8) (List.set x15 (Int.toNat (IntKind.wrap IntKind.i64 (IntKind.wrap IntKind.i64 (x11 * x6) + x5))) (List.getD x12 (Int.toNat x5) (0 : Int))), .row 44 (.pair (.int .i64) (.list 5 (.int .u8))) (x16)], n0 := 0 }) none) none) none) none) none) (cX (.exit 2) { sl := [(1, .v (.sc (.d 4 .bool (x0)))), (2, .v (.sc (.int .i64 (x1)))), (3, .v (.sc (.int .i64 (x2)))), (4, .l 4 0), (8, .l 8 0), (10, .l 10 0), (11, .v (.sc (.int .i64 (x3)))), (13, .l 13 0)], lo := [(4, [.int .i64 (x6), .d 5 (.int .u8) (x7), .d 44 (.pair (.int .i64) (.list 5 (.int .u8))) (x8)]), (8, [.int .i64 (x9), .g 0, .g 1]), (10, [.int .i64 (x10), .g 2, .g 3])], h := [.row 5 (.int .u8) (x13), .row 44 (.pair (.int .i64) (.list 5 (.int .u8))) (x14), .row 5 (.int .u8) (x15), .row 44 (.pair (.int .i64) (.list 5 (.int .u8))) (x16)], n0 := 0 })) := by kernel_rfl
theorem lL17_16_0 (k m : Nat) : ∀ (n : Nat) (x0 : (List Bool)) (x1 : Int) (x2 : Int) (x3 : Int) (x4 : Int) (x5 : Int) (x6 : Int) (x7 : (List Int)) (x8 : (List (Int × (List Int)))) (x9 : Int) (x10 : Int) (x11 : Int) (x12 : (List Int)) (x13 : (List Int)) (x14 : (List (Int × (List Int)))) (x15 : (List Int)) (x16 : (List (Int × (List Int)))) (r : (List Int)), L17_16_0 n x0 x1 x2 x3 x4 x5 x6 x7 x8 x9 x10 x11 x12 x13 x14 x15 x16 = some r → loopE Try.prog (mkTn base o5 t5 17) (TM.evF Try.prog (mkTn base o5 t5) dOk (k + 40)) dOk (k + 40) (codeAt Try.prog (tn0 17) 17 16) 2 16 (n + m) { sl := [(1, .v (.sc (.d 4 .bool (x0)))), (2, .v (.sc (.int .i64 (x1)))), (3, .v (.sc (.int .i64 (x2)))), (4, .l 4 0), (8, .l 8 0), (10, .l 10 0), (11, .v (.sc (.int .i64 (x3)))), (12, .v (.sc (.int .i64 (x4)))), (13, .l 13 0), (14, .v (.sc (.int .i64 (x5))))], lo := [(4, [.int .i64 (x6), .d 5 (.int .u8) (x7), .d 44 (.pair (.int .i64) (.list 5 (.int .u8))) (x8)]), (8, [.int .i64 (x9), .g 0, .g 1]), (10, [.int .i64 (x10), .g 2, .g 3]), (13, [.int .i64 (x11), .d 5 (.int .u8) (x12)])], h := [.row 5 (.int .u8) (x13), .row 44 (.pair (.int .i64) (.list 5 (.int .u8))) (x14), .row 5 (.int .u8) (x15), .row 44 (.pair (.int .i64) (.list 5 (.int .u8))) (x16)], n0 := 0 } = some (xL17_16_0 x0 x1 x2 x3 x4 x5 x6 x7 x8 x9 x10 x11 x12 x13 x14 x15 x16 r) := by
  intro n
  induction n with
  | zero => intro _ _ _ _ _ _ _ _ _ _ _ _ _ _ _ _ _ r h; cases h
  | succ n ih =>
    intro x0 x1 x2 x3 x4 x5 x6 x7 x8 x9 x10 x11 x12 x13 x14 x15 x16 r
    rw [show n + 1 + m = n + m + 1 by omega, loop_step, bL17_16_0, qL17_16_0]
    cases (decide (x5 < x4)) with
    | true =>
      cases (decide ((0 : Int) ≤ x5)) with
      | true =>
        cases (decide (x5 < (↑(List.length x12) : Int))) with
        | true =>
          cases (decide ((0 : Int) ≤ IntKind.wrap IntKind.i64 (IntKind.wrap IntKind.i64 (x11 * x6) + x5))) with
          | true =>
            cases (decide (IntKind.wrap IntKind.i64 (IntKind.wrap IntKind.i64 (x11 * x6) + x5) < (↑(List.length x15) : Int))) with
            | true =>
              cases (decide (Int.toNat (IntKind.wrap IntKind.i64 (IntKind.wrap IntKind.i64 (x11 * x6) + x5)) < List.length x15)) with
              | true =>
                exact ih _ _ _ _ _ _ _ _ _ _ _ _ _ _ _ _ _ r
              | false =>
                intro h; cases h
            | false =>
              intro h; cases h
          | false =>
            intro h; cases h
        | false =>
          intro h; cases h
      | false =>
        intro h; cases h
    | false =>
      intro h; cases h; rfl
def sL17_16_0 : TellS := fun S => match S with
  | { sl := [(1, .v (.sc (.d 4 .bool (x0)))), (2, .v (.sc (.int .i64 (x1)))), (3, .v (.sc (.int .i64 (x2)))), (4, .l 4 0), (8, .l 8 0), (10, .l 10 0), (11, .v (.sc (.int .i64 (x3)))), (12, .v (.sc (.int .i64 (x4)))), (13, .l 13 0), (14, .v (.sc (.int .i64 (x5))))], lo := [(4, [.int .i64 (x6), .d 5 (.int .u8) (x7), .d 44 (.pair (.int .i64) (.list 5 (.int .u8))) (x8)]), (8, [.int .i64 (x9), .g 0, .g 1]), (10, [.int .i64 (x10), .g 2, .g 3]), (13, [.int .i64 (x11), .d 5 (.int .u8) (x12)])], h := [.row 5 (.int .u8) (x13), .row 44 (.pair (.int .i64) (.list 5 (.int .u8))) (x14), .row 5 (.int .u8) (x15), .row 44 (.pair (.int .i64) (.list 5 (.int .u8))) (x16)], n0 := 0 } => some [(ok (L17_16_0 FU x0 x1 x2 x3 x4 x5 x6 x7 x8 x9 x10 x11 x12 x13 x14 x15 x16), (.exit 2), { sl := [(1, .v (.sc (.d 4 .bool (x0)))), (2, .v (.sc (.int .i64 (x1)))), (3, .v (.sc (.int .i64 (x2)))), (4, .l 4 0), (8, .l 8 0), (10, .l 10 0), (11, .v (.sc (.int .i64 (x3)))), (13, .l 13 0)], lo := [(4, [.int .i64 (x6), .d 5 (.int .u8) (x7), .d 44 (.pair (.int .i64) (.list 5 (.int .u8))) (x8)]), (8, [.int .i64 (x9), .g 0, .g 1]), (10, [.int .i64 (x10), .g 2, .g 3])], h := [.row 5 (.int .u8) (x13), .row 44 (.pair (.int .i64) (.list 5 (.int .u8))) (x14), .row 5 (.int .u8) ((val (L17_16_0 FU x0 x1 x2 x3 x4 x5 x6 x7 x8 x9 x10 x11 x12 x13 x14 x15 x16))), .row 44 (.pair (.int .i64) (.list 5 (.int .u8))) (x16)], n0 := 0 })]
  | _ => none
theorem wL17_16_0 : NewTell Try.prog dOk base o5 t5 ((17, 16), sL17_16_0) := by
  refine ⟨.loop (codeAt Try.prog (tn0 17) 17 16), 2, by kernel_rfl, ?_⟩
  intro S alts e S' h1 h2
  have h1 : sL17_16_0 S = some alts := h1
  unfold sL17_16_0 at h1
  split at h1
  · cases h1
    obtain ⟨hc0, rfl, rfl⟩ := pick_one h2
    exact ⟨FU + 40, (evPiece_loop rfl).trans (lL17_16_0 FU 40 FU _ _ _ _ _ _ _ _ _ _ _ _ _ _ _ _ _ _ (ok_val hc0))⟩
  · cases h1
/-- disk.isBlock -/
def v30 (x0 : Int) (x1 : (List Int)) (x2 : (List (Int × (List Int)))) (x3 : Int) : Option Bool := (cond (decide (x3 ≥ (0 : Int))) (cond (decide (x0 ≠ (0 : Int))) (some (decide (x3 < IntKind.wrap IntKind.i64 (Int.tdiv (↑(List.length x1) : Int) x0)))) none) (some (false)))
theorem ev30 (x0 : Int) (x1 : (List Int)) (x2 : (List (Int × (List Int)))) (x3 : Int) : fnBody Try.prog (mkTn base o5 t5 30) (TM.evF Try.prog (mkTn base o5 t5) dOk 40) dOk 40 30 [.agg [.int .i64 (x0), .d 5 (.int .u8) (x1), .d 44 (.pair (.int .i64) (.list 5 (.int .u8))) (x2)], .sc (.int .i64 (x3))] [] = (v30 x0 x1 x2 x3).bind fun r => some ([.sc (.bool (r))], []) := by
  have h : fnBody Try.prog (mkTn base o5 t5 30) (TM.evF Try.prog (mkTn base o5 t5) dOk 40) dOk 40 30 [.agg [.int .i64 (x0), .d 5 (.int .u8) (x1), .d 44 (.pair (.int .i64) (.list 5 (.int .u8))) (x2)], .sc (.int .i64 (x3))] [] = (cond (decide (x3 ≥ (0 : Int))) (cond (decide (x0 ≠ (0 : Int))) (some ([.sc (.bool (decide (x3 < IntKind.wrap IntKind.i64 (Int.tdiv (↑(List.length x1) : Int) x0))))], [])) none) (some ([.sc (.bool (false))], []))) := by kernel_rfl
  rw [h]
  unfold v30
  cases (decide (x3 ≥ (0 : Int))) with
  | true =>
    cases (decide (x0 ≠ (0 : Int))) with
    | true =>
      rfl
    | false =>
      rfl
  | false =>
    rfl
def sv30 : OrcS := fun al H => match al, H with
  | [.agg [.int .i64 (x0), .d 5 (.int .u8) (x1), .d 44 (.pair (.int .i64) (.list 5 (.int .u8))) (x2)], .sc (.int .i64 (x3))], [] => some (ok (v30 x0 x1 x2 x3), [.sc (.bool ((val (v30 x0 x1 x2 x3))))], [])
  | _, _ => none
theorem wv30 : NewOrc Try.prog dOk base o5 t5 (30, sv30) := by
  intro al H q hq hq1
  have hq : sv30 al H = some q := hq
  unfold sv30 at hq
  split at hq
  · cases hq
    exact ⟨41, (ev30 _ _ _ _).trans (ok_bind hq1)⟩
  · cases hq
def o6 : OrcT := (22, sv22) :: (30, sv30) :: o5
def t6 : TellT := ((17, 16), sL17_16_0) :: t5
abbrev tn6 : FuncId → TAn := mkTn base o6 t6
theorem ok6 : TnOk Try.prog tn6 (mkA base) dOk := by
  have h0 : TnOk Try.prog (mkTn base o5 t5) (mkA base) dOk := ok5
  have h1 := tn_orc h0 h0 (p := (30, sv30)) wv30
  have h2 := tn_orc h0 h1 (p := (22, sv22)) wv22
  have h3 := tn_tell h0 h2 (p := ((17, 16), sL17_16_0)) wL17_16_0
  exact h3
end Go.Proofs.Ytchgjjgdgbecmaa
set_option maxRecDepth 1000000
set_option linter.unusedVariables false
set_option maxHeartbeats 4000000
namespace Go.Proofs.Ytchgjjgdgbecmaa
open Go Go.AM Go.TM Go.Proofs
/-- queuelabref35.Crash: the loop 0 -/
def L17_0_0 : Nat → (List Bool) → Int → Int → Int → Int → (List Int) → (List (Int × (List Int))) → Int → Int → (List Int) → (List (Int × (List Int))) → (List Int) → (List (Int × (List Int))) → Option (List Int)
  | 0, _, _, _, _, _, _, _, _, _, _, _, _, _ => none
  | n + 1, x0, x1, x2, x3, x4, x5, x6, x7, x8, x9, x10, x11, x12 => (cond (decide (x3 < (↑(List.length x6) : Int))) (cond (decide ((0 : Int) ≤ x3)) (cond (decide (x3 < (↑(List.length x0) : Int))) (cond (List.getD x0 (Int.toNat x3) false) (cond (x3 == x1) (cond (ok (L17_16_0 FU x0 x1 x2 x3 x2 (0 : Int) x4 x5 x6 x7 x8 (Prod.fst (List.getD x6 (Int.toNat x3) ((0 : Int), []))) (Prod.snd (List.getD x6 (Int.toNat x3) ((0 : Int), []))) x9 x10 x11 x12)) (L17_0_0 n (x0) (x1) (x2) (IntKind.wrap IntKind.i64 (x3 + (1 : Int))) (x4) (x5) (x6) (x7) (x8) (x9) (x10) (val (L17_16_0 FU x0 x1 x2 x3 x2 (0 : Int) x4 x5 x6 x7 x8 (Prod.fst (List.getD x6 (Int.toNat x3) ((0 : Int), []))) (Prod.snd (List.getD x6 (Int.toNat x3) ((0 : Int), []))) x9 x10 x11 x12)) (x12)) none) (cond (ok (L17_16_0 FU x0 x1 x2 x3 x4 (0 : Int) x4 x5 x6 x7 x8 (Prod.fst (List.getD x6 (Int.toNat x3) ((0 : Int), []))) (Prod.snd (List.getD x6 (Int.toNat x3) ((0 : Int), []))) x9 x10 x11 x12)) (L17_0_0 n (x0) (x1) (x2) (IntKind.wrap IntKind.i64 (x3 + (1 : Int))) (x4) (x5) (x6) (x7) (x8) (x9) (x10) (val (L17_16_0 FU x0 x1 x2 x3 x4 (0 : Int) x4 x5 x6 x7 x8 (Prod.fst (List.getD x6 (Int.toNat x3) ((0 : Int), []))) (Prod.snd (List.getD x6 (Int.toNat x3) ((0 : Int), []))) x9 x10 x11 x12)) (x12)) none)) (cond (x3 == x1) (cond (ok (L17_16_0 FU x0 x1 x2 x3 x2 (0 : Int) x4 x5 x6 x7 x8 (Prod.fst (List.getD x6 (Int.toNat x3) ((0 : Int), []))) (Prod.snd (List.getD x6 (Int.toNat x3) ((0 : Int), []))) x9 x10 x11 x12)) (L17_0_0 n (x0) (x1) (x2) (IntKind.wrap IntKind.i64 (x3 + (1 : Int))) (x4) (x5) (x6) (x7) (x8) (x9) (x10) (val (L17_16_0 FU x0 x1 x2 x3 x2 (0 : Int) x4 x5 x6 x7 x8 (Prod.fst (List.getD x6 (Int.toNat x3) ((0 : Int), []))) (Prod.snd (List.getD x6 (Int.toNat x3) ((0 : Int), []))) x9 x10 x11 x12)) (x12)) none) (L17_0_0 n (x0) (x1) (x2) (IntKind.wrap IntKind.i64 (x3 + (1 : Int))) (x4) (x5) (x6) (x7) (x8) (x9) (x10) (val (L17_16_0 FU x0 x1 x2 x3 (0 : Int) (0 : Int) x4 x5 x6 x7 x8 (Prod.fst (List.getD x6 (Int.toNat x3) ((0 : Int), []))) (Prod.snd (List.getD x6 (Int.toNat x3) ((0 : Int), []))) x9 x10 x11 x12)) (x12)))) none) none) (some (x11)))
theorem qL17_0_0 (n : Nat) (x0 : (List Bool)) (x1 : Int) (x2 : Int) (x3 : Int) (x4 : Int) (x5 : (List Int)) (x6 : (List (Int × (List Int)))) (x7 : Int) (x8 : Int) (x9 : (List Int)) (x10 : (List (Int × (List Int)))) (x11 : (List Int)) (x12 : (List (Int × (List Int)))) : L17_0_0 (n + 1) x0 x1 x2 x3 x4 x5 x6 x7 x8 x9 x10 x11 x12 = (cond (decide (x3 < (↑(List.length x6) : Int))) (cond (decide ((0 : Int) ≤ x3)) (cond (decide (x3 < (↑(List.length x0) : Int))) (cond (List.getD x0 (Int.toNat x3) false) (cond (x3 == x1) (cond (ok (L17_16_0 FU x0 x1 x2 x3 x2 (0 : Int) x4 x5 x6 x7 x8 (Prod.fst (List.getD x6 (Int.toNat x3) ((0 : Int), []))) (Prod.snd (List.getD x6 (Int.toNat x3) ((0 : Int), []))) x9 x10 x11 x12)) (L17_0_0 n (x0) (x1) (x2) (IntKind.wrap IntKind.i64 (x3 + (1 : Int))) (x4) (x5) (x6) (x7) (x8) (x9) (x10) (val (L17_16_0 FU x0 x1 x2 x3 x2 (0 : Int) x4 x5 x6 x7 x8 (Prod.fst (List.getD x6 (Int.toNat x3) ((0 : Int), []))) (Prod.snd (List.getD x6 (Int.toNat x3) ((0 : Int), []))) x9 x10 x11 x12)) (x12)) none) (cond (ok (L17_16_0 FU x0 x1 x2 x3 x4 (0 : Int) x4 x5 x6 x7 x8 (Prod.fst (List.getD x6 (Int.toNat x3) ((0 : Int), []))) (Prod.snd (List.getD x6 (Int.toNat x3) ((0 : Int), []))) x9 x10 x11 x12)) (L17_0_0 n (x0) (x1) (x2) (IntKind.wrap IntKind.i64 (x3 + (1 : Int))) (x4) (x5) (x6) (x7) (x8) (x9) (x10) (val (L17_16_0 FU x0 x1 x2 x3 x4 (0 : Int) x4 x5 x6 x7 x8 (Prod.fst (List.getD x6 (Int.toNat x3) ((0 : Int), []))) (Prod.snd (List.getD x6 (Int.toNat x3) ((0 : Int), []))) x9 x10 x11 x12)) (x12)) none)) (cond (x3 == x1) (cond (ok (L17_16_0 FU x0 x1 x2 x3 x2 (0 : Int) x4 x5 x6 x7 x8 (Prod.fst (List.getD x6 (Int.toNat x3) ((0 : Int), []))) (Prod.snd (List.getD x6 (Int.toNat x3) ((0 : Int), []))) x9 x10 x11 x12)) (L17_0_0 n (x0) (x1) (x2) (IntKind.wrap IntKind.i64 (x3 + (1 : Int))) (x4) (x5) (x6) (x7) (x8) (x9) (x10) (val (L17_16_0 FU x0 x1 x2 x3 x2 (0 : Int) x4 x5 x6 x7 x8 (Prod.fst (List.getD x6 (Int.toNat x3) ((0 : Int), []))) (Prod.snd (List.getD x6 (Int.toNat x3) ((0 : Int), []))) x9 x10 x11 x12)) (x12)) none) (L17_0_0 n (x0) (x1) (x2) (IntKind.wrap IntKind.i64 (x3 + (1 : Int))) (x4) (x5) (x6) (x7) (x8) (x9) (x10) (val (L17_16_0 FU x0 x1 x2 x3 (0 : Int) (0 : Int) x4 x5 x6 x7 x8 (Prod.fst (List.getD x6 (Int.toNat x3) ((0 : Int), []))) (Prod.snd (List.getD x6 (Int.toNat x3) ((0 : Int), []))) x9 x10 x11 x12)) (x12)))) none) none) (some (x11))) := by rfl
def xL17_0_0 (x0 : (List Bool)) (x1 : Int) (x2 : Int) (x3 : Int) (x4 : Int) (x5 : (List Int)) (x6 : (List (Int × (List Int)))) (x7 : Int) (x8 : Int) (x9 : (List Int)) (x10 : (List (Int × (List Int)))) (x11 : (List Int)) (x12 : (List (Int × (List Int)))) : (List Int) → Ex × CS := fun r => ((.exit 0), { sl := [(4, .l 4 0), (8, .l 8 0), (10, .l 10 0), (55, .l 4 2)], lo := [(8, [.int .i64 (x7), .g 0, .g 1]), (10, [.int .i64 (x8), .g 2, .g 3])], h := [.row 5 (.int .u8) (x9), .row 44 (.pair (.int .i64) (.list 5 (.int .u8))) (x10), .row 5 (.int .u8) (r), .row 44 (.pair (.int .i64) (.list 5 (.int .u8))) (x12)], n0 := 0 })
theorem bL17_0_0 (k : Nat) (cN : CS → Option (Ex × CS)) (cX : Ex → CS → Option (Ex × CS)) (x0 : (List Bool)) (x1 : Int) (x2 : Int) (x3 : Int) (x4 : Int) (x5 : (List Int)) (x6 : (List (Int × (List Int)))) (x7 : Int) (x8 : Int) (x9 : (List Int)) (x10 : (List (Int × (List Int)))) (x11 : (List Int)) (x12 : (List (Int × (List Int)))) : loopBody Try.prog (mkTn base o6 t6 17) (TM.evF Try.prog (mkTn base o6 t6) dOk (k + 40)) dOk (k + 40) (codeAt Try.prog (tn0 17) 17 0) 0 0 { sl := [(1, .v (.sc (.d 4 .bool (x0)))), (2, .v (.sc (.int .i64 (x1)))), (3, .v (.sc (.int .i64 (x2)))), (4, .l 4 0), (8, .l 8 0), (10, .l 10 0), (11, .v (.sc (.int .i64 (x3))))], lo := [(4, [.int .i64 (x4), .d 5 (.int .u8) (x5), .d 44 (.pair (.int .i64) (.list 5 (.int .u8))) (x6)]), (8, [.int .i64 (x7), .g 0, .g 1]), (10, [.int .i64 (x8), .g 2, .g 3])], h := [.row 5 (.int .u8) (x9), .row 44 (.pair (.int .i64) (.list 5 (.int .u8))) (x10), .row 5 (.int .u8) (x11), .row 44 (.pair (.int .i64) (.list 5 (.int .u8))) (x12)], n0 := 0 } cN cX = (cond (decide (x3 < (↑(List.length x6) : Int))) (cond (decide ((0 : Int) ≤ x3)) (cond (decide (x3 < (↑(List.length x0) : Int))) (cond (List.getD x0 (Int.toNat x3) false) (cond (x3 == x1) (cond (decide ((0 : Int) ≤ x3)) (cond (decide (x3 < (↑(List.length x6) : Int))) (cond (ok (L17_16_0 FU x0 x1 x2 x3 x2 (0 : Int) x4 x5 x6 x7 x8 (Prod.fst (List.getD x6 (Int.toNat x3) ((0 : Int), []))) (Prod.snd (List.getD x6 (Int.toNat x3) ((0 : Int), []))) x9 x10 x11 x12)) (cN { sl := [(1, .v (.sc (.d 4 .bool (x0)))), (2, .v (.sc (.int .i64 (x1)))), (3, .v (.sc (.int .i64 (x2)))), (4, .l 4 0), (8, .l 8 0), (10, .l 10 0), (11, .v (.sc (.int .i64 (IntKind.wrap IntKind.i64 (x3 + (1 : Int))))))], lo := [(4, [.int .i64 (x4), .d 5 (.int .u8) (x5), .d 44 (.pair (.int .i64) (.list 5 (.int .u8))) (x6)]), (8, [.int .i64 (x7), .g 0, .g 1]), (10, [.int .i64 (x8), .g 2, .g 3])], h := [.row 5 (.int .u8) (x9), .row 44 (.pair (.int .i64) (.list 5 (.int .u8))) (x10), .row 5 (.int .u8) (val (L17_16_0 FU x0 x1 x2 x3 x2 (0 : Int) x4 x5 x6 x7 x8 (Prod.fst (List.getD x6 (Int.toNat x3) ((0 : Int), []))) (Prod.snd (List.getD x6 (Int.toNat x3) ((0 : Int), []))) x9 x10 x11 x12)), .row 44 (.pair (.int .i64) (.list 5 (.int .u8))) (x12)], n0 := 0 }) none) none) none) (cond (decide ((0 : Int) ≤ x3)) (cond (decide (x3 < (↑(List.length x6) : Int))) (cond (ok (L17_16_0 FU x0 x1 x2 x3 x4 (0 : Int) x4 x5 x6 x7 x8 (Prod.fst (List.getD x6 (Int.toNat x3) ((0 : Int), []))) (Prod.snd (List.getD x6 (Int.toNat x3) ((0 : Int), []))) x9 x10 x11 x12)) (cN { sl := [(1, .v (.sc (.d 4 .bool (x0)))), (2, .v (.sc (.int .i64 (x1)))), (3, .v (.sc (.int .i64 (x2)))), (4, .l 4 0), (8, .l 8 0), (10, .l 10 0), (11, .v (.sc (.int .i64 (IntKind.wrap IntKind.i64 (x3 + (1 : Int))))))], lo := [(4, [.int .i64 (x4), .d 5 (.int .u8) (x5), .d 44 (.pair (.int .i64) (.list 5 (.int .u8))) (x6)]), (8, [.int .i64 (x7), .g 0, .g 1]), (10, [.int .i64 (x8), .g 2, .g 3])], h := [.row 5 (.int .u8) (x9), .row 44 (.pair (.int .i64) (.list 5 (.int .u8))) (x10), .row 5 (.int .u8) (val (L17_16_0 FU x0 x1 x2 x3 x4 (0 : Int) x4 x5 x6 x7 x8 (Prod.fst (List.getD x6 (Int.toNat x3) ((0 : Int), []))) (Prod.snd (List.getD x6 (Int.toNat x3) ((0 : Int), []))) x9 x10 x11 x12)), .row 44 (.pair (.int .i64) (.list 5 (.int .u8))) (x12)], n0 := 0 }) none) none) none)) (cond (x3 == x1) (cond (decide ((0 : Int) ≤ x3)) (cond (decide (x3 < (↑(List.length x6) : Int))) (cond (ok (L17_16_0 FU x0 x1 x2 x3 x2 (0 : Int) x4 x5 x6 x7 x8 (Prod.fst (List.getD x6 (Int.toNat x3) ((0 : Int), []))) (Prod.snd (List.getD x6 (Int.toNat x3) ((0 : Int), []))) x9 x10 x11 x12)) (cN { sl := [(1, .v (.sc (.d 4 .bool (x0)))), (2, .v (.sc (.int .i64 (x1)))), (3, .v (.sc (.int .i64 (x2)))), (4, .l 4 0), (8, .l 8 0), (10, .l 10 0), (11, .v (.sc (.int .i64 (IntKind.wrap IntKind.i64 (x3 + (1 : Int))))))], lo := [(4, [.int .i64 (x4), .d 5 (.int .u8) (x5), .d 44 (.pair (.int .i64) (.list 5 (.int .u8))) (x6)]), (8, [.int .i64 (x7), .g 0, .g 1]), (10, [.int .i64 (x8), .g 2, .g 3])], h := [.row 5 (.int .u8) (x9), .row 44 (.pair (.int .i64) (.list 5 (.int .u8))) (x10), .row 5 (.int .u8) (val (L17_16_0 FU x0 x1 x2 x3 x2 (0 : Int) x4 x5 x6 x7 x8 (Prod.fst (List.getD x6 (Int.toNat x3) ((0 : Int), []))) (Prod.snd (List.getD x6 (Int.toNat x3) ((0 : Int), []))) x9 x10 x11 x12)), .row 44 (.pair (.int .i64) (.list 5 (.int .u8))) (x12)], n0 := 0 }) none) none) none) (cond (decide ((0 : Int) ≤ x3)) (cond (decide (x3 < (↑(List.length x6) : Int))) (cN { sl := [(1, .v (.sc (.d 4 .bool (x0)))), (2, .v (.sc (.int .i64 (x1)))), (3, .v (.sc (.int .i64 (x2)))), (4, .l 4 0), (8, .l 8 0), (10, .l 10 0), (11, .v (.sc (.int .i64 (IntKind.wrap IntKind.i64 (x3 + (1 : Int))))))], lo := [(4, [.int .i64 (x4), .d 5 (.int .u8) (x5), .d 44 (.pair (.int .i64) (.list 5 (.int .u8))) (x6)]), (8, [.int .i64 (x7), .g 0, .g 1]), (10, [.int .i64 (x8), .g 2, .g 3])], h := [.row 5 (.int .u8) (x9), .row 44 (.pair (.int .i64) (.list 5 (.int .u8))) (x10), .row 5 (.int .u8) (val (L17_16_0 FU x0 x1 x2 x3 (0 : Int) (0 : Int) x4 x5 x6 x7 x8 (Prod.fst (List.getD x6 (Int.toNat x3) ((0 : Int), []))) (Prod.snd (List.getD x6 (Int.toNat x3) ((0 : Int), []))) x9 x10 x11 x12)), .row 44 (.pair (.int .i64) (.list 5 (.int .u8))) (x12)], n0 := 0 }) none) none))) none) none) (cX (.exit 0) { sl := [(4, .l 4 0), (8, .l 8 0), (10, .l 10 0), (55, .l 4 2)], lo := [(8, [.int .i64 (x7), .g 0, .g 1]), (10, [.int .i64 (x8), .g 2, .g 3])], h := [.row 5 (.int .u8) (x9), .row 44 (.pair (.int .i64) (.list 5 (.int .u8))) (x10), .row 5 (.int .u8) (x11), .row 44 (.pair (.int .i64) (.list 5 (.int .u8))) (x12)], n0 := 0 })) := by kernel_rfl
theorem lL17_0_0 (k m : Nat) : ∀ (n : Nat) (x0 : (List Bool)) (x1 : Int) (x2 : Int) (x3 : Int) (x4 : Int) (x5 : (List Int)) (x6 : (List (Int × (List Int)))) (x7 : Int) (x8 : Int) (x9 : (List Int)) (x10 : (List (Int × (List Int)))) (x11 : (List Int)) (x12 : (List (Int × (List Int)))) (r : (List Int)), L17_0_0 n x0 x1 x2 x3 x4 x5 x6 x7 x8 x9 x10 x11 x12 = some r → loopE Try.prog (mkTn base o6 t6 17) (TM.evF Try.prog (mkTn base o6 t6) dOk (k + 40)) dOk (k + 40) (codeAt Try.prog (tn0 17) 17 0) 0 0 (n + m) { sl := [(1, .v (.sc (.d 4 .bool (x0)))), (2, .v (.sc (.int .i64 (x1)))), (3, .v (.sc (.int .i64 (x2)))), (4, .l 4 0), (8, .l 8 0), (10, .l 10 0), (11, .v (.sc (.int .i64 (x3))))], lo := [(4, [.int .i64 (x4), .d 5 (.int .u8) (x5), .d 44 (.pair (.int .i64) (.list 5 (.int .u8))) (x6)]), (8, [.int .i64 (x7), .g 0, .g 1]), (10, [.int .i64 (x8), .g 2, .g 3])], h := [.row 5 (.int .u8) (x9), .row 44 (.pair (.int .i64) (.list 5 (.int .u8))) (x10), .row 5 (.int .u8) (x11), .row 44 (.pair (.int .i64) (.list 5 (.int .u8))) (x12)], n0 := 0 } = some (xL17_0_0 x0 x1 x2 x3 x4 x5 x6 x7 x8 x9 x10 x11 x12 r) := by
  intro n
  induction n with
  | zero => intro _ _ _ _ _ _ _ _ _ _ _ _ _ r h; cases h
  | succ n ih =>
    intro x0 x1 x2 x3 x4 x5 x6 x7 x8 x9 x10 x11 x12 r
    rw [show n + 1 + m = n + m + 1 by omega, loop_step, bL17_0_0, qL17_0_0]
    cases (decide (x3 < (↑(List.length x6) : Int))) with
    | true =>
      cases (decide ((0 : Int) ≤ x3)) with
      | true =>
        cases (decide (x3 < (↑(List.length x0) : Int))) with
        | true =>
          cases (List.getD x0 (Int.toNat x3) false) with
          | true =>
            cases (x3 == x1) with
            | true =>
              cases (ok (L17_16_0 FU x0 x1 x2 x3 x2 (0 : Int) x4 x5 x6 x7 x8 (Prod.fst (List.getD x6 (Int.toNat x3) ((0 : Int), []))) (Prod.snd (List.getD x6 (Int.toNat x3) ((0 : Int), []))) x9 x10 x11 x12)) with
              | true =>
                exact ih _ _ _ _ _ _ _ _ _ _ _ _ _ r
              | false =>
                intro h; cases h
            | false =>
              cases (ok (L17_16_0 FU x0 x1 x2 x3 x4 (0 : Int) x4 x5 x6 x7 x8 (Prod.fst (List.getD x6 (Int.toNat x3) ((0 : Int), []))) (Prod.snd (List.getD x6 (Int.toNat x3) ((0 : Int), []))) x9 x10 x11 x12)) with
              | true =>
                exact ih _ _ _ _ _ _ _ _ _ _ _ _ _ r
              | false =>
                intro h; cases h
          | false =>
            cases (x3 == x1) with
            | true =>
              cases (ok (L17_16_0 FU x0 x1 x2 x3 x2 (0 : Int) x4 x5 x6 x7 x8 (Prod.fst (List.getD x6 (Int.toNat x3) ((0 : Int), []))) (Prod.snd (List.getD x6 (Int.toNat x3) ((0 : Int), []))) x9 x10 x11 x12)) with
              | true =>
                exact ih _ _ _ _ _ _ _ _ _ _ _ _ _ r
              | false =>
                intro h; cases h
            | false =>
              exact ih _ _ _ _ _ _ _ _ _ _ _ _ _ r
        | false =>
          intro h; cases h
      | false =>
        intro h; cases h
    | false =>
      intro h; cases h; rfl
def sL17_0_0 : TellS := fun S => match S with
  | { sl := [(1, .v (.sc (.d 4 .bool (x0)))), (2, .v (.sc (.int .i64 (x1)))), (3, .v (.sc (.int .i64 (x2)))), (4, .l 4 0), (8, .l 8 0), (10, .l 10 0), (11, .v (.sc (.int .i64 (x3))))], lo := [(4, [.int .i64 (x4), .d 5 (.int .u8) (x5), .d 44 (.pair (.int .i64) (.list 5 (.int .u8))) (x6)]), (8, [.int .i64 (x7), .g 0, .g 1]), (10, [.int .i64 (x8), .g 2, .g 3])], h := [.row 5 (.int .u8) (x9), .row 44 (.pair (.int .i64) (.list 5 (.int .u8))) (x10), .row 5 (.int .u8) (x11), .row 44 (.pair (.int .i64) (.list 5 (.int .u8))) (x12)], n0 := 0 } => some [(ok (L17_0_0 FU x0 x1 x2 x3 x4 x5 x6 x7 x8 x9 x10 x11 x12), (.exit 0), { sl := [(4, .l 4 0), (8, .l 8 0), (10, .l 10 0), (55, .l 4 2)], lo := [(8, [.int .i64 (x7), .g 0, .g 1]), (10, [.int .i64 (x8), .g 2, .g 3])], h := [.row 5 (.int .u8) (x9), .row 44 (.pair (.int .i64) (.list 5 (.int .u8))) (x10), .row 5 (.int .u8) ((val (L17_0_0 FU x0 x1 x2 x3 x4 x5 x6 x7 x8 x9 x10 x11 x12))), .row 44 (.pair (.int .i64) (.list 5 (.int .u8))) (x12)], n0 := 0 })]
  | _ => none
theorem wL17_0_0 : NewTell Try.prog dOk base o6 t6 ((17, 0), sL17_0_0) := by
  refine ⟨.loop (codeAt Try.prog (tn0 17) 17 0), 0, by kernel_rfl, ?_⟩
  intro S alts e S' h1 h2
  have h1 : sL17_0_0 S = some alts := h1
  unfold sL17_0_0 at h1
  split at h1
  · cases h1
    obtain ⟨hc0, rfl, rfl⟩ := pick_one h2
    exact ⟨FU + 40, (evPiece_loop rfl).trans (lL17_0_0 FU 40 FU _ _ _ _ _ _ _ _ _ _ _ _ _ _ (ok_val hc0))⟩
  · cases h1
/-- disk.Valid$1 -/
def v34 (x0 : Int) (x1 : (List Int)) (x2 : Int) (x3 : (List Int)) (x4 : (List (Int × (List Int)))) : Option Bool := (cond (ok (v30 x2 x3 x4 x0)) (cond (!val (v30 x2 x3 x4 x0)) (some (true)) (some ((↑(List.length x1) : Int) != x2))) none)
theorem ev34 (x0 : Int) (x1 : (List Int)) (x2 : Int) (x3 : (List Int)) (x4 : (List (Int × (List Int)))) : fnBody Try.prog (mkTn base o6 t6 34) (TM.evF Try.prog (mkTn base o6 t6) dOk 40) dOk 40 34 [.agg [.int .i64 (x0), .d 5 (.int .u8) (x1)], .sc (.ptr 0 0)] [.box 25 [.int .i64 (x2), .d 5 (.int .u8) (x3), .d 44 (.pair (.int .i64) (.list 5 (.int .u8))) (x4)]] = (v34 x0 x1 x2 x3 x4).bind fun r => some ([.sc (.bool (r))], [.box 25 [.int .i64 (x2), .d 5 (.int .u8) (x3), .d 44 (.pair (.int .i64) (.list 5 (.int .u8))) (x4)]]) := by
  have h : fnBody Try.prog (mkTn base o6 t6 34) (TM.evF Try.prog (mkTn base o6 t6) dOk 40) dOk 40 34 [.agg [.int .i64 (x0), .d 5 (.int .u8) (x1)], .sc (.ptr 0 0)] [.box 25 [.int .i64 (x2), .d 5 (.int .u8) (x3), .d 44 (.pair (.int .i64) (.list 5 (.int .u8))) (x4)]] = (cond (ok (v30 x2 x3 x4 x0)) (cond (!val (v30 x2 x3 x4 x0)) (some ([.sc (.bool (true))], [.box 25 [.int .i64 (x2), .d 5 (.int .u8) (x3), .d 44 (.pair (.int .i64) (.list 5 (.int .u8))) (x4)]])) (some ([.sc (.bool ((↑(List.length x1) : Int) != x2))], [.box 25 [.int .i64 (x2), .d 5 (.int .u8) (x3), .d 44 (.pair (.int .i64) (.list 5 (.int .u8))) (x4)]]))) none) := by kernel_rfl
  rw [h]
  unfold v34
  cases (ok (v30 x2 x3 x4 x0)) with
  | true =>
    cases (!val (v30 x2 x3 x4 x0)) with
    | true =>
      rfl
    | false =>
      rfl
  | false =>
    rfl
def sv34 : OrcS := fun al H => match al, H with
  | [.agg [.int .i64 (x0), .d 5 (.int .u8) (x1)], .sc (.ptr 0 0)], [.box 25 [.int .i64 (x2), .d 5 (.int .u8) (x3), .d 44 (.pair (.int .i64) (.list 5 (.int .u8))) (x4)]] => some (ok (v34 x0 x1 x2 x3 x4), [.sc (.bool ((val (v34 x0 x1 x2 x3 x4))))], [.box 25 [.int .i64 (x2), .d 5 (.int .u8) (x3), .d 44 (.pair (.int .i64) (.list 5 (.int .u8))) (x4)]])
  | _, _ => none
theorem wv34 : NewOrc Try.prog dOk base o6 t6 (34, sv34) := by
  intro al H q hq hq1
  have hq : sv34 al H = some q := hq
  unfold sv34 at hq
  split at hq
  · cases hq
    exact ⟨41, (ev34 _ _ _ _ _).trans (ok_bind hq1)⟩
  · cases hq
def o7 : OrcT := (34, sv34) :: o6
def t7 : TellT := ((17, 0), sL17_0_0) :: t6
abbrev tn7 : FuncId → TAn := mkTn base o7 t7
theorem ok7 : TnOk Try.prog tn7 (mkA base) dOk := by
  have h0 : TnOk Try.prog (mkTn base o6 t6) (mkA base) dOk := ok6
  have h1 := tn_orc h0 h0 (p := (34, sv34)) wv34
  have h2 := tn_tell h0 h1 (p := ((17, 0), sL17_0_0)) wL17_0_0
  exact h2
end Go.Proofs.Ytchgjjgdgbecmaa
set_option maxRecDepth 1000000
set_option linter.unusedVariables false
set_option maxHeartbeats 4000000
namespace Go.Proofs.Ytchgjjgdgbecmaa
open Go Go.AM Go.TM Go.Proofs
/-- queuelabref35.Crash -/
def v17 (x0 : Int) (x1 : (List Int)) (x2 : (List (Int × (List Int)))) (x3 : (List Bool)) (x4 : Int) (x5 : Int) : Option (Int × (List Int) × (List (Int × (List Int))) × Int) := (cond (ok (v25 x0 x1 x2)) (cond (!val (v25 x0 x1 x2)) (some ((0 : Int), [], [], (1 : Int))) (cond ((↑(List.length x3) : Int) != (↑(List.length x2) : Int)) (some ((0 : Int), [], [], (1 : Int))) (cond (decide (x4 < (-1 : Int))) (some ((0 : Int), [], [], (1 : Int))) (cond (decide (x4 ≥ (↑(List.length x3) : Int))) (some ((0 : Int), [], [], (1 : Int))) (cond (decide (x5 < (0 : Int))) (some ((0 : Int), [], [], (1 : Int))) (cond (decide (x5 > x0)) (some ((0 : Int), [], [], (1 : Int))) (cond (decide (List.length x1 ≤ nat_lit 2147483648)) (cond (ok (L17_0_0 FU x3 x4 x5 (0 : Int) x0 x1 x2 (0 : Int) x0 [] [] x1 [])) (some (x0, val (L17_0_0 FU x3 x4 x5 (0 : Int) x0 x1 x2 (0 : Int) x0 [] [] x1 []), [], (0 : Int))) none) none))))))) none)
theorem ev17 (x0 : Int) (x1 : (List Int)) (x2 : (List (Int × (List Int)))) (x3 : (List Bool)) (x4 : Int) (x5 : Int) : fnBody Try.prog (mkTn base o7 t7 17) (TM.evF Try.prog (mkTn base o7 t7) dOk 40) dOk 40 17 [.agg [.int .i64 (x0), .d 5 (.int .u8) (x1), .d 44 (.pair (.int .i64) (.list 5 (.int .u8))) (x2)], .sc (.d 4 .bool (x3)), .sc (.int .i64 (x4)), .sc (.int .i64 (x5))] [] = (v17 x0 x1 x2 x3 x4 x5).bind fun r => some ([.agg [.int .i64 (r.1), .d 5 (.int .u8) (r.2.1), .d 44 (.pair (.int .i64) (.list 5 (.int .u8))) (r.2.2.1)], .sc (.int .i64 (r.2.2.2))], []) := by
  have h : fnBody Try.prog (mkTn base o7 t7 17) (TM.evF Try.prog (mkTn base o7 t7) dOk 40) dOk 40 17 [.agg [.int .i64 (x0), .d 5 (.int .u8) (x1), .d 44 (.pair (.int .i64) (.list 5 (.int .u8))) (x2)], .sc (.d 4 .bool (x3)), .sc (.int .i64 (x4)), .sc (.int .i64 (x5))] [] = (cond (ok (v25 x0 x1 x2)) (cond (!val (v25 x0 x1 x2)) (some ([.agg [.int .i64 ((0 : Int)), .d 5 (.int .u8) ([]), .d 44 (.pair (.int .i64) (.list 5 (.int .u8))) ([])], .sc (.int .i64 ((1 : Int)))], [])) (cond ((↑(List.length x3) : Int) != (↑(List.length x2) : Int)) (some ([.agg [.int .i64 ((0 : Int)), .d 5 (.int .u8) ([]), .d 44 (.pair (.int .i64) (.list 5 (.int .u8))) ([])], .sc (.int .i64 ((1 : Int)))], [])) (cond (decide (x4 < (-1 : Int))) (some ([.agg [.int .i64 ((0 : Int)), .d 5 (.int .u8) ([]), .d 44 (.pair (.int .i64) (.list 5 (.int .u8))) ([])], .sc (.int .i64 ((1 : Int)))], [])) (cond (decide (x4 ≥ (↑(List.length x3) : Int))) (some ([.agg [.int .i64 ((0 : Int)), .d 5 (.int .u8) ([]), .d 44 (.pair (.int .i64) (.list 5 (.int .u8))) ([])], .sc (.int .i64 ((1 : Int)))], [])) (cond (decide (x5 < (0 : Int))) (some ([.agg [.int .i64 ((0 : Int)), .d 5 (.int .u8) ([]), .d 44 (.pair (.int .i64) (.list 5 (.int .u8))) ([])], .sc (.int .i64 ((1 : Int)))], [])) (cond (decide (x5 > x0)) (some ([.agg [.int .i64 ((0 : Int)), .d 5 (.int .u8) ([]), .d 44 (.pair (.int .i64) (.list 5 (.int .u8))) ([])], .sc (.int .i64 ((1 : Int)))], [])) (cond (decide (List.length x1 ≤ nat_lit 2147483648)) (cond (ok (L17_0_0 FU x3 x4 x5 (0 : Int) x0 x1 x2 (0 : Int) x0 [] [] x1 [])) (some ([.agg [.int .i64 (x0), .d 5 (.int .u8) (val (L17_0_0 FU x3 x4 x5 (0 : Int) x0 x1 x2 (0 : Int) x0 [] [] x1 [])), .d 44 (.pair (.int .i64) (.list 5 (.int .u8))) ([])], .sc (.int .i64 ((0 : Int)))], [])) none) none))))))) none) := by kernel_rfl
  rw [h]
  unfold v17
  cases (ok (v25 x0 x1 x2)) with
  | true =>
    cases (!val (v25 x0 x1 x2)) with
    | true =>
      rfl
    | false =>
      cases ((↑(List.length x3) : Int) != (↑(List.length x2) : Int)) with
      | true =>
        rfl
      | false =>
        cases (decide (x4 < (-1 : Int))) with
        | true =>
          rfl
        | false =>
          cases (decide (x4 ≥ (↑(List.length x3) : Int))) with
          | true =>
            rfl
          | false =>
            cases (decide (x5 < (0 : Int))) with
            | true =>
              rfl
            | false =>
              cases (decide (x5 > x0)) with
              | true =>
                rfl
              | false =>
                cases (decide (List.length x1 ≤ nat_lit 2147483648)) with
                | true =>
                  cases (ok (L17_0_0 FU x3 x4 x5 (0 : Int) x0 x1 x2 (0 : Int) x0 [] [] x1 [])) with
                  | true =>
                    rfl
                  | false =>
                    rfl
                | false =>
                  rfl
  | false =>
    rfl
def sv17 : OrcS := fun al H => match al, H with
  | [.agg [.int .i64 (x0), .d 5 (.int .u8) (x1), .d 44 (.pair (.int .i64) (.list 5 (.int .u8))) (x2)], .sc (.d 4 .bool (x3)), .sc (.int .i64 (x4)), .sc (.int .i64 (x5))], [] => some (ok (v17 x0 x1 x2 x3 x4 x5), [.agg [.int .i64 ((val (v17 x0 x1 x2 x3 x4 x5)).1), .d 5 (.int .u8) ((val (v17 x0 x1 x2 x3 x4 x5)).2.1), .d 44 (.pair (.int .i64) (.list 5 (.int .u8))) ((val (v17 x0 x1 x2 x3 x4 x5)).2.2.1)], .sc (.int .i64 ((val (v17 x0 x1 x2 x3 x4 x5)).2.2.2))], [])
  | _, _ => none
theorem wv17 : NewOrc Try.prog dOk base o7 t7 (17, sv17) := by
  intro al H q hq hq1
  have hq : sv17 al H = some q := hq
  unfold sv17 at hq
  split at hq
  · cases hq
    exact ⟨41, (ev17 _ _ _ _ _ _).trans (ok_bind hq1)⟩
  · cases hq
/-- api.Write]: the loop 0 -/
def L36_0_0 : Nat → (List (Int × (List Int))) → Int → Int → Int → (List Int) → (List (Int × (List Int))) → Option (Int ⊕ Unit)
  | 0, _, _, _, _, _, _ => none
  | n + 1, x0, x1, x2, x3, x4, x5 => (cond (decide (x2 < x1)) (cond (decide ((0 : Int) ≤ x2)) (cond (decide (x2 < (↑(List.length x0) : Int))) (cond (ok (v34 (Prod.fst (List.getD x0 (Int.toNat x2) ((0 : Int), []))) (Prod.snd (List.getD x0 (Int.toNat x2) ((0 : Int), []))) x3 x4 x5)) (cond (val (v34 (Prod.fst (List.getD x0 (Int.toNat x2) ((0 : Int), []))) (Prod.snd (List.getD x0 (Int.toNat x2) ((0 : Int), []))) x3 x4 x5)) (some (.inl (x2))) (L36_0_0 n (x0) (x1) (IntKind.wrap IntKind.i64 (x2 + (1 : Int))) (x3) (x4) (x5))) none) none) none) (some (.inr ())))
theorem qL36_0_0 (n : Nat) (x0 : (List (Int × (List Int)))) (x1 : Int) (x2 : Int) (x3 : Int) (x4 : (List Int)) (x5 : (List (Int × (List Int)))) : L36_0_0 (n + 1) x0 x1 x2 x3 x4 x5 = (cond (decide (x2 < x1)) (cond (decide ((0 : Int) ≤ x2)) (cond (decide (x2 < (↑(List.length x0) : Int))) (cond (ok (v34 (Prod.fst (List.getD x0 (Int.toNat x2) ((0 : Int), []))) (Prod.snd (List.getD x0 (Int.toNat x2) ((0 : Int), []))) x3 x4 x5)) (cond (val (v34 (Prod.fst (List.getD x0 (Int.toNat x2) ((0 : Int), []))) (Prod.snd (List.getD x0 (Int.toNat x2) ((0 : Int), []))) x3 x4 x5)) (some (.inl (x2))) (L36_0_0 n (x0) (x1) (IntKind.wrap IntKind.i64 (x2 + (1 : Int))) (x3) (x4) (x5))) none) none) none) (some (.inr ()))) := by rfl
def xL36_0_0 (x0 : (List (Int × (List Int)))) (x1 : Int) (x2 : Int) (x3 : Int) (x4 : (List Int)) (x5 : (List (Int × (List Int)))) : (Int ⊕ Unit) → Ex × CS := fun r => match r with | .inl a0 => (.ret, { sl := [(4, .v (.sc (.int .i64 (a0))))], lo := [], h := [.box 25 [.int .i64 (x3), .d 5 (.int .u8) (x4), .d 44 (.pair (.int .i64) (.list 5 (.int .u8))) (x5)]], n0 := 1 }) | .inr b0 => ((.exit 0), { sl := [], lo := [], h := [.box 25 [.int .i64 (x3), .d 5 (.int .u8) (x4), .d 44 (.pair (.int .i64) (.list 5 (.int .u8))) (x5)]], n0 := 1 })
theorem bL36_0_0 (k : Nat) (cN : CS → Option (Ex × CS)) (cX : Ex → CS → Option (Ex × CS)) (x0 : (List (Int × (List Int)))) (x1 : Int) (x2 : Int) (x3 : Int) (x4 : (List Int)) (x5 : (List (Int × (List Int)))) : loopBody Try.prog (mkTn base o7 t7 36) (TM.evF Try.prog (mkTn base o7 t7) dOk (k + 40)) dOk (k + 40) (codeAt Try.prog (tn0 36) 36 0) 0 0 { sl := [(0, .v (.sc (.d 44 (.pair (.int .i64) (.list 5 (.int .u8))) (x0)))), (1, .v (.sc (.fn 34 0 [none] [.ptr 0 0]))), (7, .v (.sc (.int .i64 (x1)))), (8, .v (.sc (.int .i64 (x2))))], lo := [], h := [.box 25 [.int .i64 (x3), .d 5 (.int .u8) (x4), .d 44 (.pair (.int .i64) (.list 5 (.int .u8))) (x5)]], n0 := 1 } cN cX = (cond (decide (x2 < x1)) (cond (decide ((0 : Int) ≤ x2)) (cond (decide (x2 < (↑(List.length x0) : Int))) (cond (ok (v34 (Prod.fst (List.getD x0 (Int.toNat x2) ((0 : Int), []))) (Prod.snd (List.getD x0 (Int.toNat x2) ((0 : Int), []))) x3 x4 x5)) (cond (val (v34 (Prod.fst (List.getD x0 (Int.toNat x2) ((0 : Int), []))) (Prod.snd (List.getD x0 (Int.toNat x2) ((0 : Int), []))) x3 x4 x5)) (cX .ret { sl := [(4, .v (.sc (.int .i64 (x2))))], lo := [], h := [.box 25 [.int .i64 (x3), .d 5 (.int .u8) (x4), .d 44 (.pair (.int .i64) (.list 5 (.int .u8))) (x5)]], n0 := 1 }) (cN { sl := [(0, .v (.sc (.d 44 (.pair (.int .i64) (.list 5 (.int .u8))) (x0)))), (1, .v (.sc (.fn 34 0 [none] [.ptr 0 0]))), (7, .v (.sc (.int .i64 (x1)))), (8, .v (.sc (.int .i64 (IntKind.wrap IntKind.i64 (x2 + (1 : Int))))))], lo := [], h := [.box 25 [.int .i64 (x3), .d 5 (.int .u8) (x4), .d 44 (.pair (.int .i64) (.list 5 (.int .u8))) (x5)]], n0 := 1 })) none) none) none) (cX (.exit 0) { sl := [], lo := [], h := [.box 25 [.int .i64 (x3), .d 5 (.int .u8) (x4), .d 44 (.pair (.int .i64) (.list 5 (.int .u8))) (x5)]], n0 := 1 })) := by kernel_rfl
theorem lL36_0_0 (k m : Nat) : ∀ (n : Nat) (x0 : (List (Int × (List Int)))) (x1 : Int) (x2 : Int) (x3 : Int) (x4 : (List Int)) (x5 : (List (Int × (List Int)))) (r : (Int ⊕ Unit)), L36_0_0 n x0 x1 x2 x3 x4 x5 = some r → loopE Try.prog (mkTn base o7 t7 36) (TM.evF Try.prog (mkTn base o7 t7) dOk (k + 40)) dOk (k + 40) (codeAt Try.prog (tn0 36) 36 0) 0 0 (n + m) { sl := [(0, .v (.sc (.d 44 (.pair (.int .i64) (.list 5 (.int .u8))) (x0)))), (1, .v (.sc (.fn 34 0 [none] [.ptr 0 0]))), (7, .v (.sc (.int .i64 (x1)))), (8, .v (.sc (.int .i64 (x2))))], lo := [], h := [.box 25 [.int .i64 (x3), .d 5 (.int .u8) (x4), .d 44 (.pair (.int .i64) (.list 5 (.int .u8))) (x5)]], n0 := 1 } = some (xL36_0_0 x0 x1 x2 x3 x4 x5 r) := by
  intro n
  induction n with
  | zero => intro _ _ _ _ _ _ r h; cases h
  | succ n ih =>
    intro x0 x1 x2 x3 x4 x5 r
    rw [show n + 1 + m = n + m + 1 by omega, loop_step, bL36_0_0, qL36_0_0]
    cases (decide (x2 < x1)) with
    | true =>
      cases (decide ((0 : Int) ≤ x2)) with
      | true =>
        cases (decide (x2 < (↑(List.length x0) : Int))) with
        | true =>
          cases (ok (v34 (Prod.fst (List.getD x0 (Int.toNat x2) ((0 : Int), []))) (Prod.snd (List.getD x0 (Int.toNat x2) ((0 : Int), []))) x3 x4 x5)) with
          | true =>
            cases (val (v34 (Prod.fst (List.getD x0 (Int.toNat x2) ((0 : Int), []))) (Prod.snd (List.getD x0 (Int.toNat x2) ((0 : Int), []))) x3 x4 x5)) with
            | true =>
              intro h; cases h; rfl
            | false =>
              exact ih _ _ _ _ _ _ r
          | false =>
            intro h; cases h
        | false =>
          intro h; cases h
      | false =>
        intro h; cases h
    | false =>
      intro h; cases h; rfl
def sL36_0_0 : TellS := fun S => match S with
  | { sl := [(0, .v (.sc (.d 44 (.pair (.int .i64) (.list 5 (.int .u8))) (x0)))), (1, .v (.sc (.fn 34 0 [none] [.ptr 0 0]))), (7, .v (.sc (.int .i64 (x1)))), (8, .v (.sc (.int .i64 (x2))))], lo := [], h := [.box 25 [.int .i64 (x3), .d 5 (.int .u8) (x4), .d 44 (.pair (.int .i64) (.list 5 (.int .u8))) (x5)]], n0 := 1 } => some [(isL (L36_0_0 FU x0 x1 x2 x3 x4 x5), .ret, { sl := [(4, .v (.sc (.int .i64 ((getL (L36_0_0 FU x0 x1 x2 x3 x4 x5))))))], lo := [], h := [.box 25 [.int .i64 (x3), .d 5 (.int .u8) (x4), .d 44 (.pair (.int .i64) (.list 5 (.int .u8))) (x5)]], n0 := 1 }), (ok (getR (L36_0_0 FU x0 x1 x2 x3 x4 x5)), (.exit 0), { sl := [], lo := [], h := [.box 25 [.int .i64 (x3), .d 5 (.int .u8) (x4), .d 44 (.pair (.int .i64) (.list 5 (.int .u8))) (x5)]], n0 := 1 })]
  | _ => none
theorem wL36_0_0 : NewTell Try.prog dOk base o7 t7 ((36, 0), sL36_0_0) := by
  refine ⟨.loop (codeAt Try.prog (tn0 36) 36 0), 0, by kernel_rfl, ?_⟩
  intro S alts e S' h1 h2
  have h1 : sL36_0_0 S = some alts := h1
  unfold sL36_0_0 at h1
  split at h1
  · cases h1
    rcases pick_cons h2 with ⟨hc0, rfl, rfl⟩ | h2
    · exact ⟨FU + 40, (evPiece_loop rfl).trans (lL36_0_0 FU 40 FU _ _ _ _ _ _ _ (isL_val hc0))⟩
    obtain ⟨hc1, rfl, rfl⟩ := pick_one h2
    exact ⟨FU + 40, (evPiece_loop rfl).trans (lL36_0_0 FU 40 FU _ _ _ _ _ _ _ (getR_val (ok_val hc1)))⟩
  · cases h1
def o8 : OrcT := (17, sv17) :: o7
def t8 : TellT := ((36, 0), sL36_0_0) :: t7
abbrev tn8 : FuncId → TAn := mkTn base o8 t8
theorem ok8 : TnOk Try.prog tn8 (mkA base) dOk := by
  have h0 : TnOk Try.prog (mkTn base o7 t7) (mkA base) dOk := ok7
  have h1 := tn_orc h0 h0 (p := (17, sv17)) wv17
  have h2 := tn_tell h0 h1 (p := ((36, 0), sL36_0_0)) wL36_0_0
  exact h2
end Go.Proofs.Ytchgjjgdgbecmaa
set_option maxRecDepth 1000000
set_option linter.unusedVariables false
set_option maxHeartbeats 4000000
namespace Go.Proofs.Ytchgjjgdgbecmaa
open Go Go.AM Go.TM Go.Proofs
/-- queuelabref35.Sync -/
def v15 (x0 : Int) (x1 : (List Int)) (x2 : (List (Int × (List Int)))) : Option (Int × (List Int) × (List (Int × (List Int))) × Int) := (cond (decide ((↑(List.length x2) : Int) ≤ (↑(List.length x2) : Int))) (cond (decide ((↑(List.length x2) : Int) ≤ (↑(nat_lit 2147483648) : Int))) (cond (ok (L15_0_0 FU (0 : Int) x0 x1 x2 (0 : Int) (List.replicate (Int.toNat (↑(List.length x2) : Int)) false) [] [])) (cond (ok (v17 x0 x1 x2 (val (L15_0_0 FU (0 : Int) x0 x1 x2 (0 : Int) (List.replicate (Int.toNat (↑(List.length x2) : Int)) false) [] [])) (-1 : Int) (0 : Int))) (some (Prod.fst (val (v17 x0 x1 x2 (val (L15_0_0 FU (0 : Int) x0 x1 x2 (0 : Int) (List.replicate (Int.toNat (↑(List.length x2) : Int)) false) [] [])) (-1 : Int) (0 : Int))), Prod.fst (Prod.snd (val (v17 x0 x1 x2 (val (L15_0_0 FU (0 : Int) x0 x1 x2 (0 : Int) (List.replicate (Int.toNat (↑(List.length x2) : Int)) false) [] [])) (-1 : Int) (0 : Int)))), Prod.fst (Prod.snd (Prod.snd (val (v17 x0 x1 x2 (val (L15_0_0 FU (0 : Int) x0 x1 x2 (0 : Int) (List.replicate (Int.toNat (↑(List.length x2) : Int)) false) [] [])) (-1 : Int) (0 : Int))))), Prod.snd (Prod.snd (Prod.snd (val (v17 x0 x1 x2 (val (L15_0_0 FU (0 : Int) x0 x1 x2 (0 : Int) (List.replicate (Int.toNat (↑(List.length x2) : Int)) false) [] [])) (-1 : Int) (0 : Int))))))) none) none) none) none)
theorem ev15 (x0 : Int) (x1 : (List Int)) (x2 : (List (Int × (List Int)))) : fnBody Try.prog (mkTn base o8 t8 15) (TM.evF Try.prog (mkTn base o8 t8) dOk 40) dOk 40 15 [.agg [.int .i64 (x0), .d 5 (.int .u8) (x1), .d 44 (.pair (.int .i64) (.list 5 (.int .u8))) (x2)]] [] = (v15 x0 x1 x2).bind fun r => some ([.agg [.int .i64 (r.1), .d 5 (.int .u8) (r.2.1), .d 44 (.pair (.int .i64) (.list 5 (.int .u8))) (r.2.2.1)], .sc (.int .i64 (r.2.2.2))], []) := by
  have h : fnBody Try.prog (mkTn base o8 t8 15) (TM.evF Try.prog (mkTn base o8 t8) dOk 40) dOk 40 15 [.agg [.int .i64 (x0), .d 5 (.int .u8) (x1), .d 44 (.pair (.int .i64) (.list 5 (.int .u8))) (x2)]] [] = (cond (decide ((↑(List.length x2) : Int) ≤ (↑(List.length x2) : Int))) (cond (decide ((↑(List.length x2) : Int) ≤ (↑(nat_lit 2147483648) : Int))) (cond (ok (L15_0_0 FU (0 : Int) x0 x1 x2 (0 : Int) (List.replicate (Int.toNat (↑(List.length x2) : Int)) false) [] [])) (cond (ok (v17 x0 x1 x2 (val (L15_0_0 FU (0 : Int) x0 x1 x2 (0 : Int) (List.replicate (Int.toNat (↑(List.length x2) : Int)) false) [] [])) (-1 : Int) (0 : Int))) (some ([.agg [.int .i64 (Prod.fst (val (v17 x0 x1 x2 (val (L15_0_0 FU (0 : Int) x0 x1 x2 (0 : Int) (List.replicate (Int.toNat (↑(List.length x2) : Int)) false) [] [])) (-1 : Int) (0 : Int)))), .d 5 (.int .u8) (Prod.fst (Prod.snd (val (v17 x0 x1 x2 (val (L15_0_0 FU (0 : Int) x0 x1 x2 (0 : Int) (List.replicate (Int.toNat (↑(List.length x2) : Int)) false) [] [])) (-1 : Int) (0 : Int))))), .d 44 (.pair (.int .i64) (.list 5 (.int .u8))) (Prod.fst (Prod.snd (Prod.snd (val (v17 x0 x1 x2 (val (L15_0_0 FU (0 : Int) x0 x1 x2 (0 : Int) (List.replicate (Int.toNat (↑(List.length x2) : Int)) false) [] [])) (-1 : Int) (0 : Int))))))], .sc (.int .i64 (Prod.snd (Prod.snd (Prod.snd (val (v17 x0 x1 x2 (val (L15_0_0 FU (0 : Int) x0 x1 x2 (0 : Int) (List.replicate (Int.toNat (↑(List.length x2) : Int)) false) [] [])) (-1 : Int) (0 : Int)))))))], [])) none) none) none) none) := by kernel_rfl
  rw [h]
  unfold v15
  cases (decide ((↑(List.length x2) : Int) ≤ (↑(List.length x2) : Int))) with
  | true =>
    cases (decide ((↑(List.length x2) : Int) ≤ (↑(nat_lit 2147483648) : Int))) with
    | true =>
      cases (ok (L15_0_0 FU (0 : Int) x0 x1 x2 (0 : Int) (List.replicate (Int.toNat (↑(List.length x2) : Int)) false) [] [])) with
      | true =>
        cases (ok (v17 x0 x1 x2 (val (L15_0_0 FU (0 : Int) x0 x1 x2 (0 : Int) (List.replicate (Int.toNat (↑(List.length x2) : Int)) false) [] [])) (-1 : Int) (0 : Int))) with
        | true =>
          rfl
        | false =>
          rfl
      | false =>
        rfl
    | false =>
      rfl
  | false =>
    rfl
def sv15 : OrcS := fun al H => match al, H with
  | [.agg [.int .i64 (x0), .d 5 (.int .u8) (x1), .d 44 (.pair (.int .i64) (.list 5 (.int .u8))) (x2)]], [] => some (ok (v15 x0 x1 x2), [.agg [.int .i64 ((val (v15 x0 x1 x2)).1), .d 5 (.int .u8) ((val (v15 x0 x1 x2)).2.1), .d 44 (.pair (.int .i64) (.list 5 (.int .u8))) ((val (v15 x0 x1 x2)).2.2.1)], .sc (.int .i64 ((val (v15 x0 x1 x2)).2.2.2))], [])
  | _, _ => none
theorem wv15 : NewOrc Try.prog dOk base o8 t8 (15, sv15) := by
  intro al H q hq hq1
  have hq : sv15 al H = some q := hq
  unfold sv15 at hq
  split at hq
  · cases hq
    exact ⟨41, (ev15 _ _ _).trans (ok_bind hq1)⟩
  · cases hq
/-- api.Write] -/
def v36 (x0 : (List (Int × (List Int)))) (x1 : Int) (x2 : (List Int)) (x3 : (List (Int × (List Int)))) : Option Int := (cond (isL (L36_0_0 FU x0 (↑(List.length x0) : Int) (0 : Int) x1 x2 x3)) (some (getL (L36_0_0 FU x0 (↑(List.length x0) : Int) (0 : Int) x1 x2 x3))) (cond (ok (getR (L36_0_0 FU x0 (↑(List.length x0) : Int) (0 : Int) x1 x2 x3))) (some ((-1 : Int))) none))
theorem ev36 (x0 : (List (Int × (List Int)))) (x1 : Int) (x2 : (List Int)) (x3 : (List (Int × (List Int)))) : fnBody Try.prog (mkTn base o8 t8 36) (TM.evF Try.prog (mkTn base o8 t8) dOk 40) dOk 40 36 [.sc (.d 44 (.pair (.int .i64) (.list 5 (.int .u8))) (x0)), .sc (.fn 34 0 [none] [.ptr 0 0])] [.box 25 [.int .i64 (x1), .d 5 (.int .u8) (x2), .d 44 (.pair (.int .i64) (.list 5 (.int .u8))) (x3)]] = (v36 x0 x1 x2 x3).bind fun r => some ([.sc (.int .i64 (r))], [.box 25 [.int .i64 (x1), .d 5 (.int .u8) (x2), .d 44 (.pair (.int .i64) (.list 5 (.int .u8))) (x3)]]) := by
  have h : fnBody Try.prog (mkTn base o8 t8 36) (TM.evF Try.prog (mkTn base o8 t8) dOk 40) dOk 40 36 [.sc (.d 44 (.pair (.int .i64) (.list 5 (.int .u8))) (x0)), .sc (.fn 34 0 [none] [.ptr 0 0])] [.box 25 [.int .i64 (x1), .d 5 (.int .u8) (x2), .d 44 (.pair (.int .i64) (.list 5 (.int .u8))) (x3)]] = (cond (isL (L36_0_0 FU x0 (↑(List.length x0) : Int) (0 : Int) x1 x2 x3)) (some ([.sc (.int .i64 (getL (L36_0_0 FU x0 (↑(List.length x0) : Int) (0 : Int) x1 x2 x3)))], [.box 25 [.int .i64 (x1), .d 5 (.int .u8) (x2), .d 44 (.pair (.int .i64) (.list 5 (.int .u8))) (x3)]])) (cond (ok (getR (L36_0_0 FU x0 (↑(List.length x0) : Int) (0 : Int) x1 x2 x3))) (some ([.sc (.int .i64 ((-1 : Int)))], [.box 25 [.int .i64 (x1), .d 5 (.int .u8) (x2), .d 44 (.pair (.int .i64) (.list 5 (.int .u8))) (x3)]])) none)) := by kernel_rfl
  rw [h]
  unfold v36
  cases (isL (L36_0_0 FU x0 (↑(List.length x0) : Int) (0 : Int) x1 x2 x3)) with
  | true =>
    rfl
  | false =>
    cases (ok (getR (L36_0_0 FU x0 (↑(List.length x0) : Int) (0 : Int) x1 x2 x3))) with
    | true =>
      rfl
    | false =>
      rfl
def sv36 : OrcS := fun al H => match al, H with
  | [.sc (.d 44 (.pair (.int .i64) (.list 5 (.int .u8))) (x0)), .sc (.fn 34 0 [none] [.ptr 0 0])], [.box 25 [.int .i64 (x1), .d 5 (.int .u8) (x2), .d 44 (.pair (.int .i64) (.list 5 (.int .u8))) (x3)]] => some (ok (v36 x0 x1 x2 x3), [.sc (.int .i64 ((val (v36 x0 x1 x2 x3))))], [.box 25 [.int .i64 (x1), .d 5 (.int .u8) (x2), .d 44 (.pair (.int .i64) (.list 5 (.int .u8))) (x3)]])
  | _, _ => none
theorem wv36 : NewOrc Try.prog dOk base o8 t8 (36, sv36) := by
  intro al H q hq hq1
  have hq : sv36 al H = some q := hq
  unfold sv36 at hq
  split at hq
  · cases hq
    exact ⟨41, (ev36 _ _ _ _).trans (ok_bind hq1)⟩
  · cases hq
def o9 : OrcT := (15, sv15) :: (36, sv36) :: o8
def t9 : TellT := t8
abbrev tn9 : FuncId → TAn := mkTn base o9 t9
theorem ok9 : TnOk Try.prog tn9 (mkA base) dOk := by
  have h0 : TnOk Try.prog (mkTn base o8 t8) (mkA base) dOk := ok8
  have h1 := tn_orc h0 h0 (p := (36, sv36)) wv36
  have h2 := tn_orc h0 h1 (p := (15, sv15)) wv15
  exact h2
end Go.Proofs.Ytchgjjgdgbecmaa
set_option maxRecDepth 1000000
set_option linter.unusedVariables false
set_option maxHeartbeats 4000000
namespace Go.Proofs.Ytchgjjgdgbecmaa
open Go Go.AM Go.TM Go.Proofs
/-- queuelabref35.Read -/
def v19 (x0 : Int) (x1 : (List Int)) (x2 : (List (Int × (List Int)))) (x3 : Int) : Option ((List Int) × Int) := (cond (ok (v15 x0 x1 x2)) (cond (Prod.snd (Prod.snd (Prod.snd (val (v15 x0 x1 x2)))) != (0 : Int)) (some ([], (1 : Int))) (cond (decide (x3 < (0 : Int))) (some ([], (1 : Int))) (cond (decide (Prod.fst (val (v15 x0 x1 x2)) ≠ (0 : Int))) (cond (decide (x3 ≥ IntKind.wrap IntKind.i64 (Int.tdiv (↑(List.length (Prod.fst (Prod.snd (val (v15 x0 x1 x2))))) : Int) (Prod.fst (val (v15 x0 x1 x2)))))) (some ([], (1 : Int))) (cond (decide ((0 : Int) ≤ IntKind.wrap IntKind.i64 (x3 * Prod.fst (val (v15 x0 x1 x2))))) (cond (decide ((0 : Int) ≤ IntKind.wrap IntKind.i64 (IntKind.wrap IntKind.i64 (x3 + (1 : Int)) * Prod.fst (val (v15 x0 x1 x2))))) (cond (decide (Int.toNat (IntKind.wrap IntKind.i64 (x3 * Prod.fst (val (v15 x0 x1 x2)))) ≤ Int.toNat (IntKind.wrap IntKind.i64 (IntKind.wrap IntKind.i64 (x3 + (1 : Int)) * Prod.fst (val (v15 x0 x1 x2)))))) (cond (decide (Int.toNat (IntKind.wrap IntKind.i64 (IntKind.wrap IntKind.i64 (x3 + (1 : Int)) * Prod.fst (val (v15 x0 x1 x2)))) ≤ Int.toNat (IntKind.wrap IntKind.i64 (IntKind.wrap IntKind.i64 (x3 + (1 : Int)) * Prod.fst (val (v15 x0 x1 x2)))))) (cond (decide (Int.toNat (IntKind.wrap IntKind.i64 (IntKind.wrap IntKind.i64 (x3 + (1 : Int)) * Prod.fst (val (v15 x0 x1 x2)))) ≤ List.length (Prod.fst (Prod.snd (val (v15 x0 x1 x2)))))) (cond (decide (List.length (List.drop (Int.toNat (IntKind.wrap IntKind.i64 (x3 * Prod.fst (val (v15 x0 x1 x2))))) (List.take (Int.toNat (IntKind.wrap IntKind.i64 (IntKind.wrap IntKind.i64 (x3 + (1 : Int)) * Prod.fst (val (v15 x0 x1 x2))))) (Prod.fst (Prod.snd (val (v15 x0 x1 x2)))))) ≤ nat_lit 2147483648)) (some (List.drop (Int.toNat (IntKind.wrap IntKind.i64 (x3 * Prod.fst (val (v15 x0 x1 x2))))) (List.take (Int.toNat (IntKind.wrap IntKind.i64 (IntKind.wrap IntKind.i64 (x3 + (1 : Int)) * Prod.fst (val (v15 x0 x1 x2))))) (Prod.fst (Prod.snd (val (v15 x0 x1 x2))))), (0 : Int))) none) none) none) none) none) none)) none))) none)
theorem ev19 (x0 : Int) (x1 : (List Int)) (x2 : (List (Int × (List Int)))) (x3 : Int) : fnBody Try.prog (mkTn base o9 t9 19) (TM.evF Try.prog (mkTn base o9 t9) dOk 40) dOk 40 19 [.agg [.int .i64 (x0), .d 5 (.int .u8) (x1), .d 44 (.pair (.int .i64) (.list 5 (.int .u8))) (x2)], .sc (.int .i64 (x3))] [] = (v19 x0 x1 x2 x3).bind fun r => some ([.sc (.d 5 (.int .u8) (r.1)), .sc (.int .i64 (r.2))], []) := by
  have h : fnBody Try.prog (mkTn base o9 t9 19) (TM.evF Try.prog (mkTn base o9 t9) dOk 40) dOk 40 19 [.agg [.int .i64 (x0), .d 5 (.int .u8) (x1), .d 44 (.pair (.int .i64) (.list 5 (.int .u8))) (x2)], .sc (.int .i64 (x3))] [] = (cond (ok (v15 x0 x1 x2)) (cond (Prod.snd (Prod.snd (Prod.snd (val (v15 x0 x1 x2)))) != (0 : Int)) (some ([.sc (.d 5 (.int .u8) ([])), .sc (.int .i64 ((1 : Int)))], [])) (cond (decide (x3 < (0 : Int))) (some ([.sc (.d 5 (.int .u8) ([])), .sc (.int .i64 ((1 : Int)))], [])) (cond (decide (Prod.fst (val (v15 x0 x1 x2)) ≠ (0 : Int))) (cond (decide (x3 ≥ IntKind.wrap IntKind.i64 (Int.tdiv (↑(List.length (Prod.fst (Prod.snd (val (v15 x0 x1 x2))))) : Int) (Prod.fst (val (v15 x0 x1 x2)))))) (some ([.sc (.d 5 (.int .u8) ([])), .sc (.int .i64 ((1 : Int)))], [])) (cond (decide ((0 : Int) ≤ IntKind.wrap IntKind.i64 (x3 * Prod.fst (val (v15 x0 x1 x2))))) (cond (decide ((0 : Int) ≤ IntKind.wrap IntKind.i64 (IntKind.wrap IntKind.i64 (x3 + (1 : Int)) * Prod.fst (val (v15 x0 x1 x2))))) (cond (decide (Int.toNat (IntKind.wrap IntKind.i64 (x3 * Prod.fst (val (v15 x0 x1 x2)))) ≤ Int.toNat (IntKind.wrap IntKind.i64 (IntKind.wrap IntKind.i64 (x3 + (1 : Int)) * Prod.fst (val (v15 x0 x1 x2)))))) (cond (decide (Int.toNat (IntKind.wrap IntKind.i64 (IntKind.wrap IntKind.i64 (x3 + (1 : Int)) * Prod.fst (val (v15 x0 x1 x2)))) ≤ Int.toNat (IntKind.wrap IntKind.i64 (IntKind.wrap IntKind.i64 (x3 + (1 : Int)) * Prod.fst (val (v15 x0 x1 x2)))))) (cond (decide (Int.toNat (IntKind.wrap IntKind.i64 (IntKind.wrap IntKind.i64 (x3 + (1 : Int)) * Prod.fst (val (v15 x0 x1 x2)))) ≤ List.length (Prod.fst (Prod.snd (val (v15 x0 x1 x2)))))) (cond (decide (List.length (List.drop (Int.toNat (IntKind.wrap IntKind.i64 (x3 * Prod.fst (val (v15 x0 x1 x2))))) (List.take (Int.toNat (IntKind.wrap IntKind.i64 (IntKind.wrap IntKind.i64 (x3 + (1 : Int)) * Prod.fst (val (v15 x0 x1 x2))))) (Prod.fst (Prod.snd (val (v15 x0 x1 x2)))))) ≤ nat_lit 2147483648)) (some ([.sc (.d 5 (.int .u8) (List.drop (Int.toNat (IntKind.wrap IntKind.i64 (x3 * Prod.fst (val (v15 x0 x1 x2))))) (List.take (Int.toNat (IntKind.wrap IntKind.i64 (IntKind.wrap IntKind.i64 (x3 + (1 : Int)) * Prod.fst (val (v15 x0 x1 x2))))) (Prod.fst (Prod.snd (val (v15 x0 x1 x2))))))), .sc (.int .i64 ((0 : Int)))], [])) none) none) none) none) none) none)) none))) none) := by kernel_rfl
  rw [h]
  unfold v19
  cases (ok (v15 x0 x1 x2)) with
  | true =>
    cases (Prod.snd (Prod.snd (Prod.snd (val (v15 x0 x1 x2)))) != (0 : Int)) with
    | true =>
      rfl
    | false =>
      cases (decide (x3 < (0 : Int))) with
      | true =>
        rfl
      | false =>
        cases (decide (Prod.fst (val (v15 x0 x1 x2)) ≠ (0 : Int))) with
        | true =>
          cases (decide (x3 ≥ IntKind.wrap IntKind.i64 (Int.tdiv (↑(List.length (Prod.fst (Prod.snd (val (v15 x0 x1 x2))))) : Int) (Prod.fst (val (v15 x0 x1 x2)))))) with
          | true =>
            rfl
          | false =>
            cases (decide ((0 : Int) ≤ IntKind.wrap IntKind.i64 (x3 * Prod.fst (val (v15 x0 x1 x2))))) with
            | true =>
              cases (decide ((0 : Int) ≤ IntKind.wrap IntKind.i64 (IntKind.wrap IntKind.i64 (x3 + (1 : Int)) * Prod.fst (val (v15 x0 x1 x2))))) with
              | true =>
                cases (decide (Int.toNat (IntKind.wrap IntKind.i64 (x3 * Prod.fst (val (v15 x0 x1 x2)))) ≤ Int.toNat (IntKind.wrap IntKind.i64 (IntKind.wrap IntKind.i64 (x3 + (1 : Int)) * Prod.fst (val (v15 x0 x1 x2)))))) with
                | true =>
                  cases (decide (Int.toNat (IntKind.wrap IntKind.i64 (IntKind.wrap IntKind.i64 (x3 + (1 : Int)) * Prod.fst (val (v15 x0 x1 x2)))) ≤ Int.toNat (IntKind.wrap IntKind.i64 (IntKind.wrap IntKind.i64 (x3 + (1 : Int)) * Prod.fst (val (v15 x0 x1 x2)))))) with
                  | true =>
                    cases (decide (Int.toNat (IntKind.wrap IntKind.i64 (IntKind.wrap IntKind.i64 (x3 + (1 : Int)) * Prod.fst (val (v15 x0 x1 x2)))) ≤ List.length (Prod.fst (Prod.snd (val (v15 x0 x1 x2)))))) with
                    | true =>
                      cases (decide (List.length (List.drop (Int.toNat (IntKind.wrap IntKind.i64 (x3 * Prod.fst (val (v15 x0 x1 x2))))) (List.take (Int.toNat (IntKind.wrap IntKind.i64 (IntKind.wrap IntKind.i64 (x3 + (1 : Int)) * Prod.fst (val (v15 x0 x1 x2))))) (Prod.fst (Prod.snd (val (v15 x0 x1 x2)))))) ≤ nat_lit 2147483648)) with
                      | true =>
                        rfl
                      | false =>
                        rfl
                    | false =>
                      rfl
                  | false =>
                    rfl
                | false =>
                  rfl
              | false =>
                rfl
            | false =>
              rfl
        | false =>
          rfl
  | false =>
    rfl
def sv19 : OrcS := fun al H => match al, H with
  | [.agg [.int .i64 (x0), .d 5 (.int .u8) (x1), .d 44 (.pair (.int .i64) (.list 5 (.int .u8))) (x2)], .sc (.int .i64 (x3))], [] => some (ok (v19 x0 x1 x2 x3), [.sc (.d 5 (.int .u8) ((val (v19 x0 x1 x2 x3)).1)), .sc (.int .i64 ((val (v19 x0 x1 x2 x3)).2))], [])
  | _, _ => none
theorem wv19 : NewOrc Try.prog dOk base o9 t9 (19, sv19) := by
  intro al H q hq hq1
  have hq : sv19 al H = some q := hq
  unfold sv19 at hq
  split at hq
  · cases hq
    exact ⟨41, (ev19 _ _ _ _).trans (ok_bind hq1)⟩
  · cases hq
/-- api.Write] -/
def v35 (x0 : (List (Int × (List Int)))) (x1 : Int) (x2 : (List Int)) (x3 : (List (Int × (List Int)))) : Option Bool := (cond (ok (v36 x0 x1 x2 x3)) (some (decide (val (v36 x0 x1 x2 x3) ≥ (0 : Int)))) none)
theorem ev35 (x0 : (List (Int × (List Int)))) (x1 : Int) (x2 : (List Int)) (x3 : (List (Int × (List Int)))) : fnBody Try.prog (mkTn base o9 t9 35) (TM.evF Try.prog (mkTn base o9 t9) dOk 40) dOk 40 35 [.sc (.d 44 (.pair (.int .i64) (.list 5 (.int .u8))) (x0)), .sc (.fn 34 0 [none] [.ptr 0 0])] [.box 25 [.int .i64 (x1), .d 5 (.int .u8) (x2), .d 44 (.pair (.int .i64) (.list 5 (.int .u8))) (x3)]] = (v35 x0 x1 x2 x3).bind fun r => some ([.sc (.bool (r))], [.box 25 [.int .i64 (x1), .d 5 (.int .u8) (x2), .d 44 (.pair (.int .i64) (.list 5 (.int .u8))) (x3)]]) := by
  have h : fnBody Try.prog (mkTn base o9 t9 35) (TM.evF Try.prog (mkTn base o9 t9) dOk 40) dOk 40 35 [.sc (.d 44 (.pair (.int .i64) (.list 5 (.int .u8))) (x0)), .sc (.fn 34 0 [none] [.ptr 0 0])] [.box 25 [.int .i64 (x1), .d 5 (.int .u8) (x2), .d 44 (.pair (.int .i64) (.list 5 (.int .u8))) (x3)]] = (cond (ok (v36 x0 x1 x2 x3)) (some ([.sc (.bool (decide (val (v36 x0 x1 x2 x3) ≥ (0 : Int))))], [.box 25 [.int .i64 (x1), .d 5 (.int .u8) (x2), .d 44 (.pair (.int .i64) (.list 5 (.int .u8))) (x3)]])) none) := by kernel_rfl
  rw [h]
  unfold v35
  cases (ok (v36 x0 x1 x2 x3)) with
  | true =>
    rfl
  | false =>
    rfl
def sv35 : OrcS := fun al H => match al, H with
  | [.sc (.d 44 (.pair (.int .i64) (.list 5 (.int .u8))) (x0)), .sc (.fn 34 0 [none] [.ptr 0 0])], [.box 25 [.int .i64 (x1), .d 5 (.int .u8) (x2), .d 44 (.pair (.int .i64) (.list 5 (.int .u8))) (x3)]] => some (ok (v35 x0 x1 x2 x3), [.sc (.bool ((val (v35 x0 x1 x2 x3))))], [.box 25 [.int .i64 (x1), .d 5 (.int .u8) (x2), .d 44 (.pair (.int .i64) (.list 5 (.int .u8))) (x3)]])
  | _, _ => none
theorem wv35 : NewOrc Try.prog dOk base o9 t9 (35, sv35) := by
  intro al H q hq hq1
  have hq : sv35 al H = some q := hq
  unfold sv35 at hq
  split at hq
  · cases hq
    exact ⟨41, (ev35 _ _ _ _).trans (ok_bind hq1)⟩
  · cases hq
def o10 : OrcT := (19, sv19) :: (35, sv35) :: o9
def t10 : TellT := t9
abbrev tn10 : FuncId → TAn := mkTn base o10 t10
theorem ok10 : TnOk Try.prog tn10 (mkA base) dOk := by
  have h0 : TnOk Try.prog (mkTn base o9 t9) (mkA base) dOk := ok9
  have h1 := tn_orc h0 h0 (p := (35, sv35)) wv35
  have h2 := tn_orc h0 h1 (p := (19, sv19)) wv19
  exact h2
end Go.Proofs.Ytchgjjgdgbecmaa
set_option maxRecDepth 1000000
set_option linter.unusedVariables false
set_option maxHeartbeats 4000000
namespace Go.Proofs.Ytchgjjgdgbecmaa
open Go Go.AM Go.TM Go.Proofs
/-- disk.Valid -/
def v24 (x0 : Int) (x1 : (List Int)) (x2 : (List (Int × (List Int)))) : Option Bool := (cond (decide (x0 < (1 : Int))) (some (false)) (cond (decide (x0 > (512 : Int))) (some (false)) (cond (decide ((↑(List.length x1) : Int) < x0)) (some (false)) (cond (decide ((↑(List.length x1) : Int) > (65536 : Int))) (some (false)) (cond (decide (x0 ≠ (0 : Int))) (cond (Int.tmod (↑(List.length x1) : Int) x0 != (0 : Int)) (some (false)) (cond (decide ((↑(List.length x2) : Int) > (64 : Int))) (some (false)) (cond (ok (v35 x2 x0 x1 x2)) (some (!val (v35 x2 x0 x1 x2))) none))) none)))))
theorem ev24 (x0 : Int) (x1 : (List Int)) (x2 : (List (Int × (List Int)))) : fnBody Try.prog (mkTn base o10 t10 24) (TM.evF Try.prog (mkTn base o10 t10) dOk 40) dOk 40 24 [.agg [.int .i64 (x0), .d 5 (.int .u8) (x1), .d 44 (.pair (.int .i64) (.list 5 (.int .u8))) (x2)]] [] = (v24 x0 x1 x2).bind fun r => some ([.sc (.bool (r))], []) := by
  have h : fnBody Try.prog (mkTn base o10 t10 24) (TM.evF Try.prog (mkTn base o10 t10) dOk 40) dOk 40 24 [.agg [.int .i64 (x0), .d 5 (.int .u8) (x1), .d 44 (.pair (.int .i64) (.list 5 (.int .u8))) (x2)]] [] = (cond (decide (x0 < (1 : Int))) (some ([.sc (.bool (false))], [])) (cond (decide (x0 > (512 : Int))) (some ([.sc (.bool (false))], [])) (cond (decide ((↑(List.length x1) : Int) < x0)) (some ([.sc (.bool (false))], [])) (cond (decide ((↑(List.length x1) : Int) > (65536 : Int))) (some ([.sc (.bool (false))], [])) (cond (decide (x0 ≠ (0 : Int))) (cond (Int.tmod (↑(List.length x1) : Int) x0 != (0 : Int)) (some ([.sc (.bool (false))], [])) (cond (decide ((↑(List.length x2) : Int) > (64 : Int))) (some ([.sc (.bool (false))], [])) (cond (ok (v35 x2 x0 x1 x2)) (some ([.sc (.bool (!val (v35 x2 x0 x1 x2)))], [])) none))) none))))) := by kernel_rfl
  rw [h]
  unfold v24
  cases (decide (x0 < (1 : Int))) with
  | true =>
    rfl
  | false =>
    cases (decide (x0 > (512 : Int))) with
    | true =>
      rfl
    | false =>
      cases (decide ((↑(List.length x1) : Int) < x0)) with
      | true =>
        rfl
      | false =>
        cases (decide ((↑(List.length x1) : Int) > (65536 : Int))) with
        | true =>
          rfl
        | false =>
          cases (decide (x0 ≠ (0 : Int))) with
          | true =>
            cases (Int.tmod (↑(List.length x1) : Int) x0 != (0 : Int)) with
            | true =>
              rfl
            | false =>
              cases (decide ((↑(List.length x2) : Int) > (64 : Int))) with
              | true =>
                rfl
              | false =>
                cases (ok (v35 x2 x0 x1 x2)) with
                | true =>
                  rfl
                | false =>
                  rfl
          | false =>
            rfl
def sv24 : OrcS := fun al H => match al, H with
  | [.agg [.int .i64 (x0), .d 5 (.int .u8) (x1), .d 44 (.pair (.int .i64) (.list 5 (.int .u8))) (x2)]], [] => some (ok (v24 x0 x1 x2), [.sc (.bool ((val (v24 x0 x1 x2))))], [])
  | _, _ => none
theorem wv24 : NewOrc Try.prog dOk base o10 t10 (24, sv24) := by
  intro al H q hq hq1
  have hq : sv24 al H = some q := hq
  unfold sv24 at hq
  split at hq
  · cases hq
    exact ⟨41, (ev24 _ _ _).trans (ok_bind hq1)⟩
  · cases hq
def o11 : OrcT := (24, sv24) :: o10
def t11 : TellT := t10
abbrev tn11 : FuncId → TAn := mkTn base o11 t11
theorem ok11 : TnOk Try.prog tn11 (mkA base) dOk := by
  have h0 : TnOk Try.prog (mkTn base o10 t10) (mkA base) dOk := ok10
  have h1 := tn_orc h0 h0 (p := (24, sv24)) wv24
  exact h1
end Go.Proofs.Ytchgjjgdgbecmaa
set_option maxRecDepth 1000000
set_option linter.unusedVariables false
set_option maxHeartbeats 4000000
namespace Go.Proofs.Ytchgjjgdgbecmaa
open Go Go.AM Go.TM Go.Proofs
/-- disk.Crash: the loop 0 -/
def L16_0_0 : Nat → (List Bool) → Int → Int → (List (Int × (List Int))) → Int → Int → Int → (List Int) → (List (Int × (List Int))) → Int → (List (Int × (List Int))) → (List Int) → (List (Int × (List Int))) → Option (List (Int × (List Int)))
  | 0, _, _, _, _, _, _, _, _, _, _, _, _, _ => none
  | n + 1, x0, x1, x2, x3, x4, x5, x6, x7, x8, x9, x10, x11, x12 => (cond (decide (x5 < x4)) (cond (decide ((0 : Int) ≤ x5)) (cond (decide (x5 < (↑(List.length x3) : Int))) (cond (x5 == x1) (cond (decide ((0 : Int) ≤ x2)) (cond (decide (Int.toNat x2 ≤ Int.toNat x2)) (cond (decide (Int.toNat x2 ≤ List.length (Prod.snd (List.getD x3 (Int.toNat x5) ((0 : Int), []))))) (cond (decide (List.length x10 + List.length [(Prod.fst (List.getD x3 (Int.toNat x5) ((0 : Int), [])), List.drop (0 : Nat) (List.take (Int.toNat x2) (Prod.snd (List.getD x3 (Int.toNat x5) ((0 : Int), [])))))] ≤ nat_lit 2147483648)) (L16_0_0 n (x0) (x1) (x2) (x3) (x4) (IntKind.wrap IntKind.i64 (x5 + (1 : Int))) (x6) (x7) (x8) (x9) (x10 ++ [(Prod.fst (List.getD x3 (Int.toNat x5) ((0 : Int), [])), List.drop (0 : Nat) (List.take (Int.toNat x2) (Prod.snd (List.getD x3 (Int.toNat x5) ((0 : Int), [])))))]) (x11) (x12)) none) none) none) none) (cond (decide (x5 < (↑(List.length x0) : Int))) (cond (List.getD x0 (Int.toNat x5) false) (cond (decide (List.length x10 + List.length [(Prod.fst (List.getD x3 (Int.toNat x5) ((0 : Int), [])), Prod.snd (List.getD x3 (Int.toNat x5) ((0 : Int), [])))] ≤ nat_lit 2147483648)) (L16_0_0 n (x0) (x1) (x2) (x3) (x4) (IntKind.wrap IntKind.i64 (x5 + (1 : Int))) (x6) (x7) (x8) (x9) (x10 ++ [(Prod.fst (List.getD x3 (Int.toNat x5) ((0 : Int), [])), Prod.snd (List.getD x3 (Int.toNat x5) ((0 : Int), [])))]) (x11) (x12)) none) (L16_0_0 n (x0) (x1) (x2) (x3) (x4) (IntKind.wrap IntKind.i64 (x5 + (1 : Int))) (x6) (x7) (x8) (x9) (x10) (x11) (x12))) none)) none) none) (some (x10)))
theorem qL16_0_0 (n : Nat) (x0 : (List Bool)) (x1 : Int) (x2 : Int) (x3 : (List (Int × (List Int)))) (x4 : Int) (x5 : Int) (x6 : Int) (x7 : (List Int)) (x8 : (List (Int × (List Int)))) (x9 : Int) (x10 : (List (Int × (List Int)))) (x11 : (List Int)) (x12 : (List (Int × (List Int)))) : L16_0_0 (n + 1) x0 x1 x2 x3 x4 x5 x6 x7 x8 x9 x10 x11 x12 = (cond (decide (x5 < x4)) (cond (decide ((0 : Int) ≤ x5)) (cond (decide (x5 < (↑(List.length x3) : Int))) (cond (x5 == x1) (cond (decide ((0 : Int) ≤ x2)) (cond (decide (Int.toNat x2 ≤ Int.toNat x2)) (cond (decide (Int.toNat x2 ≤ List.length (Prod.snd (List.getD x3 (Int.toNat x5) ((0 : Int), []))))) (cond (decide (List.length x10 + List.length [(Prod.fst (List.getD x3 (Int.toNat x5) ((0 : Int), [])), List.drop (0 : Nat) (List.take (Int.toNat x2) (Prod.snd (List.getD x3 (Int.toNat x5) ((0 : Int), [])))))] ≤ nat_lit 2147483648)) (L16_0_0 n (x0) (x1) (x2) (x3) (x4) (IntKind.wrap IntKind.i64 (x5 + (1 : Int))) (x6) (x7) (x8) (x9) (x10 ++ [(Prod.fst (List.getD x3 (Int.toNat x5) ((0 : Int), [])), List.drop (0 : Nat) (List.take (Int.toNat x2) (Prod.snd (List.getD x3 (Int.toNat x5) ((0 : Int), [])))))]) (x11) (x12)) none) none) none) none) (cond (decide (x5 < (↑(List.length x0) : Int))) (cond (List.getD x0 (Int.toNat x5) false) (cond (decide (List.length x10 + List.length [(Prod.fst (List.getD x3 (Int.toNat x5) ((0 : Int), [])), Prod.snd (List.getD x3 (Int.toNat x5) ((0 : Int), [])))] ≤ nat_lit 2147483648)) (L16_0_0 n (x0) (x1) (x2) (x3) (x4) (IntKind.wrap IntKind.i64 (x5 + (1 : Int))) (x6) (x7) (x8) (x9) (x10 ++ [(Prod.fst (List.getD x3 (Int.toNat x5) ((0 : Int), [])), Prod.snd (List.getD x3 (Int.toNat x5) ((0 : Int), [])))]) (x11) (x12)) none) (L16_0_0 n (x0) (x1) (x2) (x3) (x4) (IntKind.wrap IntKind.i64 (x5 + (1 : Int))) (x6) (x7) (x8) (x9) (x10) (x11) (x12))) none)) none) none) (some (x10))) := by rfl
def xL16_0_0 (x0 : (List Bool)) (x1 : Int) (x2 : Int) (x3 : (List (Int × (List Int)))) (x4 : Int) (x5 : Int) (x6 : Int) (x7 : (List Int)) (x8 : (List (Int × (List Int)))) (x9 : Int) (x10 : (List (Int × (List Int)))) (x11 : (List Int)) (x12 : (List (Int × (List Int)))) : (List (Int × (List Int))) → Ex × CS := fun r => ((.exit 0), { sl := [(4, .l 4 0), (8, .l 8 0), (10, .v (.sc (.g 0)))], lo := [(4, [.int .i64 (x6), .d 5 (.int .u8) (x7), .d 44 (.pair (.int .i64) (.list 5 (.int .u8))) (x8)]), (8, [.int .i64 (x9), .g 1, .g 2])], h := [.row 44 (.pair (.int .i64) (.list 5 (.int .u8))) (r), .row 5 (.int .u8) (x11), .row 44 (.pair (.int .i64) (.list 5 (.int .u8))) (x12)], n0 := 0 })
theorem bL16_0_0 (k : Nat) (cN : CS → Option (Ex × CS)) (cX : Ex → CS → Option (Ex × CS)) (x0 : (List Bool)) (x1 : Int) (x2 : Int) (x3 : (List (Int × (List Int)))) (x4 : Int) (x5 : Int) (x6 : Int) (x7 : (List Int)) (x8 : (List (Int × (List Int)))) (x9 : Int) (x10 : (List (Int × (List Int)))) (x11 : (List Int)) (x12 : (List (Int × (List Int)))) : loopBody Try.prog (mkTn base o11 t11 16) (TM.evF Try.prog (mkTn base o11 t11) dOk (k + 40)) dOk (k + 40) (codeAt Try.prog (tn0 16) 16 0) 0 0 { sl := [(1, .v (.sc (.d 4 .bool (x0)))), (2, .v (.sc (.int .i64 (x1)))), (3, .v (.sc (.int .i64 (x2)))), (4, .l 4 0), (8, .l 8 0), (10, .v (.sc (.g 0))), (46, .v (.sc (.d 44 (.pair (.int .i64) (.list 5 (.int .u8))) (x3)))), (47, .v (.sc (.int .i64 (x4)))), (48, .v (.sc (.int .i64 (x5))))], lo := [(4, [.int .i64 (x6), .d 5 (.int .u8) (x7), .d 44 (.pair (.int .i64) (.list 5 (.int .u8))) (x8)]), (8, [.int .i64 (x9), .g 1, .g 2])], h := [.row 44 (.pair (.int .i64) (.list 5 (.int .u8))) (x10), .row 5 (.int .u8) (x11), .row 44 (.pair (.int .i64) (.list 5 (.int .u8))) (x12)], n0 := 0 } cN cX = (cond (decide (x5 < x4)) (cond (decide ((0 : Int) ≤ x5)) (cond (decide (x5 < (↑(List.length x3) : Int))) (cond (x5 == x1) (cond (decide ((0 : Int) ≤ x2)) (cond (decide ((0 : Int) ≤ x2)) (cond (decide (Int.toNat x2 ≤ Int.toNat x2)) (cond (decide (Int.toNat x2 ≤ List.length (Prod.snd (List.getD x3 (Int.toNat x5) ((0 : Int), []))))) (cond (decide (List.length x10 + List.length [(Prod.fst (List.getD x3 (Int.toNat x5) ((0 : Int), [])), List.drop (0 : Nat) (List.take (Int.toNat x2) (Prod.snd (List.getD x3 (Int.toNat x5) ((0 : Int), [])))))] ≤ nat_lit 2147483648)) (cN { sl := [(1, .v (.sc (.d 4 .bool (x0)))), (2, .v (.sc (.int .i64 (x1)))), (3, .v (.sc (.int .i64 (x2)))), (4, .l 4 0), (8, .l 8 0), (10, .v (.sc (.g 0))), (46, .v (.sc (.d 44 (.pair (.int .i64) (.list 5 (.int .u8))) (x3)))), (47, .v (.sc (.int .i64 (x4)))), (48, .v (.sc (.int .i64 (IntKind.wrap IntKind.i64 (x5 + (1 : Int))))))], lo := [(4, [.int .i64 (x6), .d 5 (.int .u8) (x7), .d 44 (.pair (.int .i64) (.list 5 (.int .u8))) (x8)]), (8, [.int .i64 (x9), .g 1, .g 2])], h := [.row 44 (.pair (.int .i64) (.list 5 (.int .u8))) (x10 ++ [(Prod.fst (List.getD x3 (Int.toNat x5) ((0 : Int), [])), List.drop (0 : Nat) (List.take (Int.toNat x2) (Prod.snd (List.getD x3 (Int.toNat x5) ((0 : Int), [])))))]), .row 5 (.int .u8) (x11), .row 44 (.pair (.int .i64) (.list 5 (.int .u8))) (x12)], n0 := 0 }) none) none) none) none) none) (cond (decide ((0 : Int) ≤ x5)) (cond (decide (x5 < (↑(List.length x0) : Int))) (cond (List.getD x0 (Int.toNat x5) false) (cond (decide (List.length x10 + List.length [(Prod.fst (List.getD x3 (Int.toNat x5) ((0 : Int), [])), Prod.snd (List.getD x3 (Int.toNat x5) ((0 : Int), [])))] ≤ nat_lit 2147483648)) (cN { sl := [(1, .v (.sc (.d 4 .bool (x0)))), (2, .v (.sc (.int .i64 (x1)))), (3, .v (.sc (.int .i64 (x2)))), (4, .l 4 0), (8, .l 8 0), (10, .v (.sc (.g 0))), (46, .v (.sc (.d 44 (.pair (.int .i64) (.list 5 (.int .u8))) (x3)))), (47, .v (.sc (.int .i64 (x4)))), (48, .v (.sc (.int .i64 (IntKind.wrap IntKind.i64 (x5 + (1 : Int))))))], lo := [(4, [.int .i64 (x6), .d 5 (.int .u8) (x7), .d 44 (.pair (.int .i64) (.list 5 (.int .u8))) (x8)]), (8, [.int .i64 (x9), .g 1, .g 2])], h := [.row 44 (.pair (.int .i64) (.list 5 (.int .u8))) (x10 ++ [(Prod.fst (List.getD x3 (Int.toNat x5) ((0 : Int), [])), Prod.snd (List.getD x3 (Int.toNat x5) ((0 : Int), [])))]), .row 5 (.int .u8) (x11), .row 44 (.pair (.int .i64) (.list 5 (.int .u8))) (x12)], n0 := 0 }) none) (cN { sl := [(1, .v (.sc (.d 4 .bool (x0)))), (2, .v (.sc (.int .i64 (x1)))), (3, .v (.sc (.int .i64 (x2)))), (4, .l 4 0), (8, .l 8 0), (10, .v (.sc (.g 0))), (46, .v (.sc (.d 44 (.pair (.int .i64) (.list 5 (.int .u8))) (x3)))), (47, .v (.sc (.int .i64 (x4)))), (48, .v (.sc (.int .i64 (IntKind.wrap IntKind.i64 (x5 + (1 : Int))))))], lo := [(4, [.int .i64 (x6), .d 5 (.int .u8) (x7), .d 44 (.pair (.int .i64) (.list 5 (.int .u8))) (x8)]), (8, [.int .i64 (x9), .g 1, .g 2])], h := [.row 44 (.pair (.int .i64) (.list 5 (.int .u8))) (x10), .row 5 (.int .u8) (x11), .row 44 (.pair (.int .i64) (.list 5 (.int .u8))) (x12)], n0 := 0 })) none) none)) none) none) (cX (.exit 0) { sl := [(4, .l 4 0), (8, .l 8 0), (10, .v (.sc (.g 0)))], lo := [(4, [.int .i64 (x6), .d 5 (.int .u8) (x7), .d 44 (.pair (.int .i64) (.list 5 (.int .u8))) (x8)]), (8, [.int .i64 (x9), .g 1, .g 2])], h := [.row 44 (.pair (.int .i64) (.list 5 (.int .u8))) (x10), .row 5 (.int .u8) (x11), .row 44 (.pair (.int .i64) (.list 5 (.int .u8))) (x12)], n0 := 0 })) := by kernel_rfl
theorem lL16_0_0 (k m : Nat) : ∀ (n : Nat) (x0 : (List Bool)) (x1 : Int) (x2 : Int) (x3 : (List (Int × (List Int)))) (x4 : Int) (x5 : Int) (x6 : Int) (x7 : (List Int)) (x8 : (List (Int × (List Int)))) (x9 : Int) (x10 : (List (Int × (List Int)))) (x11 : (List Int)) (x12 : (List (Int × (List Int)))) (r : (List (Int × (List Int)))), L16_0_0 n x0 x1 x2 x3 x4 x5 x6 x7 x8 x9 x10 x11 x12 = some r → loopE Try.prog (mkTn base o11 t11 16) (TM.evF Try.prog (mkTn base o11 t11) dOk (k + 40)) dOk (k + 40) (codeAt Try.prog (tn0 16) 16 0) 0 0 (n + m) { sl := [(1, .v (.sc (.d 4 .bool (x0)))), (2, .v (.sc (.int .i64 (x1)))), (3, .v (.sc (.int .i64 (x2)))), (4, .l 4 0), (8, .l 8 0), (10, .v (.sc (.g 0))), (46, .v (.sc (.d 44 (.pair (.int .i64) (.list 5 (.int .u8))) (x3)))), (47, .v (.sc (.int .i64 (x4)))), (48, .v (.sc (.int .i64 (x5))))], lo := [(4, [.int .i64 (x6), .d 5 (.int .u8) (x7), .d 44 (.pair (.int .i64) (.list 5 (.int .u8))) (x8)]), (8, [.int .i64 (x9), .g 1, .g 2])], h := [.row 44 (.pair (.int .i64) (.list 5 (.int .u8))) (x10), .row 5 (.int .u8) (x11), .row 44 (.pair (.int .i64) (.list 5 (.int .u8))) (x12)], n0 := 0 } = some (xL16_0_0 x0 x1 x2 x3 x4 x5 x6 x7 x8 x9 x10 x11 x12 r) := by
  intro n
  induction n with
  | zero => intro _ _ _ _ _ _ _ _ _ _ _ _ _ r h; cases h
  | succ n ih =>
    intro x0 x1 x2 x3 x4 x5 x6 x7 x8 x9 x10 x11 x12 r
    rw [show n + 1 + m = n + m + 1 by omega, loop_step, bL16_0_0, qL16_0_0]
    cases (decide (x5 < x4)) with
    | true =>
      cases (decide ((0 : Int) ≤ x5)) with
      | true =>
        cases (decide (x5 < (↑(List.length x3) : Int))) with
        | true =>
          cases (x5 == x1) with
          | true =>
            cases (decide ((0 : Int) ≤ x2)) with
            | true =>
              cases (decide (Int.toNat x2 ≤ Int.toNat x2)) with
              | true =>
                cases (decide (Int.toNat x2 ≤ List.length (Prod.snd (List.getD x3 (Int.toNat x5) ((0 : Int), []))))) with
                | true =>
                  cases (decide (List.length x10 + List.length [(Prod.fst (List.getD x3 (Int.toNat x5) ((0 : Int), [])), List.drop (0 : Nat) (List.take (Int.toNat x2) (Prod.snd (List.getD x3 (Int.toNat x5) ((0 : Int), [])))))] ≤ nat_lit 2147483648)) with
                  | true =>
                    exact ih _ _ _ _ _ _ _ _ _ _ _ _ _ r
                  | false =>
                    intro h; cases h
                | false =>
                  intro h; cases h
              | false =>
                intro h; cases h
            | false =>
              intro h; cases h
          | false =>
            cases (decide (x5 < (↑(List.length x0) : Int))) with
            | true =>
              cases (List.getD x0 (Int.toNat x5) false) with
              | true =>
                cases (decide (List.length x10 + List.length [(Prod.fst (List.getD x3 (Int.toNat x5) ((0 : Int), [])), Prod.snd (List.getD x3 (Int.toNat x5) ((0 : Int), [])))] ≤ nat_lit 2147483648)) with
                | true =>
                  exact ih _ _ _ _ _ _ _ _ _ _ _ _ _ r
                | false =>
                  intro h; cases h
              | false =>
                exact ih _ _ _ _ _ _ _ _ _ _ _ _ _ r
            | false =>
              intro h; cases h
        | false =>
          intro h; cases h
      | false =>
        intro h; cases h
    | false =>
      intro h; cases h; rfl
def sL16_0_0 : TellS := fun S => match S with
  | { sl := [(1, .v (.sc (.d 4 .bool (x0)))), (2, .v (.sc (.int .i64 (x1)))), (3, .v (.sc (.int .i64 (x2)))), (4, .l 4 0), (8, .l 8 0), (10, .v (.sc (.g 0))), (46, .v (.sc (.d 44 (.pair (.int .i64) (.list 5 (.int .u8))) (x3)))), (47, .v (.sc (.int .i64 (x4)))), (48, .v (.sc (.int .i64 (x5))))], lo := [(4, [.int .i64 (x6), .d 5 (.int .u8) (x7), .d 44 (.pair (.int .i64) (.list 5 (.int .u8))) (x8)]), (8, [.int .i64 (x9), .g 1, .g 2])], h := [.row 44 (.pair (.int .i64) (.list 5 (.int .u8))) (x10), .row 5 (.int .u8) (x11), .row 44 (.pair (.int .i64) (.list 5 (.int .u8))) (x12)], n0 := 0 } => some [(ok (L16_0_0 FU x0 x1 x2 x3 x4 x5 x6 x7 x8 x9 x10 x11 x12), (.exit 0), { sl := [(4, .l 4 0), (8, .l 8 0), (10, .v (.sc (.g 0)))], lo := [(4, [.int .i64 (x6), .d 5 (.int .u8) (x7), .d 44 (.pair (.int .i64) (.list 5 (.int .u8))) (x8)]), (8, [.int .i64 (x9), .g 1, .g 2])], h := [.row 44 (.pair (.int .i64) (.list 5 (.int .u8))) ((val (L16_0_0 FU x0 x1 x2 x3 x4 x5 x6 x7 x8 x9 x10 x11 x12))), .row 5 (.int .u8) (x11), .row 44 (.pair (.int .i64) (.list 5 (.int .u8))) (x12)], n0 := 0 })]
  | _ => none
theorem wL16_0_0 : NewTell Try.prog dOk base o11 t11 ((16, 0), sL16_0_0) := by
  refine ⟨.loop (codeAt Try.prog (tn0 16) 16 0), 0, by kernel_rfl, ?_⟩
  intro S alts e S' h1 h2
  have h1 : sL16_0_0 S = some alts := h1
  unfold sL16_0_0 at h1
  split at h1
  · cases h1
    obtain ⟨hc0, rfl, rfl⟩ := pick_one h2
    exact ⟨FU + 40, (evPiece_loop rfl).trans (lL16_0_0 FU 40 FU _ _ _ _ _ _ _ _ _ _ _ _ _ _ (ok_val hc0))⟩
  · cases h1
/-- disk.Write: the loop 8 -/
def L12_8_0 : Nat → Int → Int → Int → Int → (List (Int × (List Int))) → (List Int) → (List (Int × (List Int))) → (List Int) → (List (Int × (List Int))) → Option (List (Int × (List Int)))
  | 0, _, _, _, _, _, _, _, _, _ => none
  | n + 1, x0, x1, x2, x3, x4, x5, x6, x7, x8 => (cond (decide (x1 < x0)) (cond (decide ((0 : Int) ≤ x1)) (cond (decide (x1 < (↑(List.length x4) : Int))) (cond (decide (Int.toNat x1 < List.length x4)) (cond (decide (List.length (Prod.snd (List.getD x4 (Int.toNat x1) ((0 : Int), []))) ≤ nat_lit 2147483648)) (cond (decide (List.length x6 + List.length [(Prod.fst (List.getD x4 (Int.toNat x1) ((0 : Int), [])), Prod.snd (List.getD x4 (Int.toNat x1) ((0 : Int), [])))] ≤ nat_lit 2147483648)) (L12_8_0 n (x0) (IntKind.wrap IntKind.i64 (x1 + (1 : Int))) (x2) (x3) (x4) (x5) (x6 ++ [(Prod.fst (List.getD x4 (Int.toNat x1) ((0 : Int), [])), Prod.snd (List.getD x4 (Int.toNat x1) ((0 : Int), [])))]) (x7) (x8)) none) none) none) none) none) (some (x6)))
theorem qL12_8_0 (n : Nat) (x0 : Int) (x1 : Int) (x2 : Int) (x3 : Int) (x4 : (List (Int × (List Int)))) (x5 : (List Int)) (x6 : (List (Int × (List Int)))) (x7 : (List Int)) (x8 : (List (Int × (List Int)))) : L12_8_0 (n + 1) x0 x1 x2 x3 x4 x5 x6 x7 x8 = (cond (decide (x1 < x0)) (cond (decide ((0 : Int) ≤ x1)) (cond (decide (x1 < (↑(List.length x4) : Int))) (cond (decide (Int.toNat x1 < List.length x4)) (cond (decide (List.length (Prod.snd (List.getD x4 (Int.toNat x1) ((0 : Int), []))) ≤ nat_lit 2147483648)) (cond (decide (List.length x6 + List.length [(Prod.fst (List.getD x4 (Int.toNat x1) ((0 : Int), [])), Prod.snd (List.getD x4 (Int.toNat x1) ((0 : Int), [])))] ≤ nat_lit 2147483648)) (L12_8_0 n (x0) (IntKind.wrap IntKind.i64 (x1 + (1 : Int))) (x2) (x3) (x4) (x5) (x6 ++ [(Prod.fst (List.getD x4 (Int.toNat x1) ((0 : Int), [])), Prod.snd (List.getD x4 (Int.toNat x1) ((0 : Int), [])))]) (x7) (x8)) none) none) none) none) none) (some (x6))) := by rfl
def xL12_8_0 (x0 : Int) (x1 : Int) (x2 : Int) (x3 : Int) (x4 : (List (Int × (List Int)))) (x5 : (List Int)) (x6 : (List (Int × (List Int)))) (x7 : (List Int)) (x8 : (List (Int × (List Int)))) : (List (Int × (List Int))) → Ex × CS := fun r => ((.exit 1), { sl := [(6, .l 6 0), (8, .l 8 0)], lo := [(6, [.int .i64 (x2), .g 2, .g 3]), (8, [.int .i64 (x3), .g 0, .g 1])], h := [.row 5 (.int .u8) (x5), .row 44 (.pair (.int .i64) (.list 5 (.int .u8))) (r), .row 5 (.int .u8) (x7), .row 44 (.pair (.int .i64) (.list 5 (.int .u8))) (x8)], n0 := 0 })
theorem bL12_8_0 (k : Nat) (cN : CS → Option (Ex × CS)) (cX : Ex → CS → Option (Ex × CS)) (x0 : Int) (x1 : Int) (x2 : Int) (x3 : Int) (x4 : (List (Int × (List Int)))) (x5 : (List Int)) (x6 : (List (Int × (List Int)))) (x7 : (List Int)) (x8 : (List (Int × (List Int)))) : loopBody Try.prog (mkTn base o11 t11 12) (TM.evF Try.prog (mkTn base o11 t11) dOk (k + 40)) dOk (k + 40) (codeAt Try.prog (tn0 12) 12 8) 1 8 { sl := [(6, .l 6 0), (8, .l 8 0), (48, .v (.sc (.g 0))), (49, .v (.sc (.int .i64 (x0)))), (50, .v (.sc (.int .i64 (x1))))], lo := [(6, [.int .i64 (x2), .g 3, .g 4]), (8, [.int .i64 (x3), .g 1, .g 2])], h := [.row 44 (.pair (.int .i64) (.list 5 (.int .u8))) (x4), .row 5 (.int .u8) (x5), .row 44 (.pair (.int .i64) (.list 5 (.int .u8))) (x6), .row 5 (.int .u8) (x7), .row 44 (.pair (.int .i64) (.list 5 (.int .u8))) (x8)], n0 := 0 } cN cX = (cond (decide (x1 < x0)) (cond (decide ((0 : Int) ≤ x1)) (cond (decide (x1 < (↑(List.length x4) : Int))) (cond (decide (Int.toNat x1 < List.length x4)) (cond (decide (List.length (Prod.snd (List.getD x4 (Int.toNat x1) ((0 : Int), []))) ≤ nat_lit 2147483648)) (cond (decide (List.length x6 + List.length [(Prod.fst (List.getD x4 (Int.toNat x1) ((0 : Int), [])), Prod.snd (List.getD x4 (Int.toNat x1) ((0 : Int), [])))] ≤ nat_lit 2147483648)) (cN { sl := [(6, .l 6 0), (8, .l 8 0), (48, .v (.sc (.g 0))), (49, .v (.sc (.int .i64 (x0)))), (50, .v (.sc (.int .i64 (IntKind.wrap IntKind.i64 (x1 + (1 : Int))))))], lo := [(6, [.int .i64 (x2), .g 3, .g 4]), (8, [.int .i64 (x3), .g 1, .g 2])], h := [.row 44 (.pair (.int .i64) (.list 5 (.int .u8))) (x4), .row 5 (.int .u8) (x5), .row 44 (.pair (.int .i64) (.list 5 (.int .u8))) (x6 ++ [(Prod.fst (List.getD x4 (Int.toNat x1) ((0 : Int), [])), Prod.snd (List.getD x4 (Int.toNat x1) ((0 : Int), [])))]), .row 5 (.int .u8) (x7), .row 44 (.pair (.int .i64) (.list 5 (.int .u8))) (x8)], n0 := 0 }) none) none) none) none) none) (cX (.exit 1) { sl := [(6, .l 6 0), (8, .l 8 0)], lo := [(6, [.int .i64 (x2), .g 2, .g 3]), (8, [.int .i64 (x3), .g 0, .g 1])], h := [.row 5 (.int .u8) (x5), .row 44 (.pair (.int .i64) (.list 5 (.int .u8))) (x6), .row 5 (.int .u8) (x7), .row 44 (.pair (.int .i64) (.list 5 (.int .u8))) (x8)], n0 := 0 })) := by kernel_rfl
theorem lL12_8_0 (k m : Nat) : ∀ (n : Nat) (x0 : Int) (x1 : Int) (x2 : Int) (x3 : Int) (x4 : (List (Int × (List Int)))) (x5 : (List Int)) (x6 : (List (Int × (List Int)))) (x7 : (List Int)) (x8 : (List (Int × (List Int)))) (r : (List (Int × (List Int)))), L12_8_0 n x0 x1 x2 x3 x4 x5 x6 x7 x8 = some r → loopE Try.prog (mkTn base o11 t11 12) (TM.evF Try.prog (mkTn base o11 t11) dOk (k + 40)) dOk (k + 40) (codeAt Try.prog (tn0 12) 12 8) 1 8 (n + m) { sl := [(6, .l 6 0), (8, .l 8 0), (48, .v (.sc (.g 0))), (49, .v (.sc (.int .i64 (x0)))), (50, .v (.sc (.int .i64 (x1))))], lo := [(6, [.int .i64 (x2), .g 3, .g 4]), (8, [.int .i64 (x3), .g 1, .g 2])], h := [.row 44 (.pair (.int .i64) (.list 5 (.int .u8))) (x4), .row 5 (.int .u8) (x5), .row 44 (.pair (.int .i64) (.list 5 (.int .u8))) (x6), .row 5 (.int .u8) (x7), .row 44 (.pair (.int .i64) (.list 5 (.int .u8))) (x8)], n0 := 0 } = some (xL12_8_0 x0 x1 x2 x3 x4 x5 x6 x7 x8 r) := by
  intro n
  induction n with
  | zero => intro _ _ _ _ _ _ _ _ _ r h; cases h
  | succ n ih =>
    intro x0 x1 x2 x3 x4 x5 x6 x7 x8 r
    rw [show n + 1 + m = n + m + 1 by omega, loop_step, bL12_8_0, qL12_8_0]
    cases (decide (x1 < x0)) with
    | true =>
      cases (decide ((0 : Int) ≤ x1)) with
      | true =>
        cases (decide (x1 < (↑(List.length x4) : Int))) with
        | true =>
          cases (decide (Int.toNat x1 < List.length x4)) with
          | true =>
            cases (decide (List.length (Prod.snd (List.getD x4 (Int.toNat x1) ((0 : Int), []))) ≤ nat_lit 2147483648)) with
            | true =>
              cases (decide (List.length x6 + List.length [(Prod.fst (List.getD x4 (Int.toNat x1) ((0 : Int), [])), Prod.snd (List.getD x4 (Int.toNat x1) ((0 : Int), [])))] ≤ nat_lit 2147483648)) with
              | true =>
                exact ih _ _ _ _ _ _ _ _ _ r
              | false =>
                intro h; cases h
            | false =>
              intro h; cases h
          | false =>
            intro h; cases h
        | false =>
          intro h; cases h
      | false =>
        intro h; cases h
    | false =>
      intro h; cases h; rfl
def sL12_8_0 : TellS := fun S => match S with
  | { sl := [(6, .l 6 0), (8, .l 8 0), (48, .v (.sc (.g 0))), (49, .v (.sc (.int .i64 (x0)))), (50, .v (.sc (.int .i64 (x1))))], lo := [(6, [.int .i64 (x2), .g 3, .g 4]), (8, [.int .i64 (x3), .g 1, .g 2])], h := [.row 44 (.pair (.int .i64) (.list 5 (.int .u8))) (x4), .row 5 (.int .u8) (x5), .row 44 (.pair (.int .i64) (.list 5 (.int .u8))) (x6), .row 5 (.int .u8) (x7), .row 44 (.pair (.int .i64) (.list 5 (.int .u8))) (x8)], n0 := 0 } => some [(ok (L12_8_0 FU x0 x1 x2 x3 x4 x5 x6 x7 x8), (.exit 1), { sl := [(6, .l 6 0), (8, .l 8 0)], lo := [(6, [.int .i64 (x2), .g 2, .g 3]), (8, [.int .i64 (x3), .g 0, .g 1])], h := [.row 5 (.int .u8) (x5), .row 44 (.pair (.int .i64) (.list 5 (.int .u8))) ((val (L12_8_0 FU x0 x1 x2 x3 x4 x5 x6 x7 x8))), .row 5 (.int .u8) (x7), .row 44 (.pair (.int .i64) (.list 5 (.int .u8))) (x8)], n0 := 0 })]
  | _ => none
theorem wL12_8_0 : NewTell Try.prog dOk base o11 t11 ((12, 8), sL12_8_0) := by
  refine ⟨.loop (codeAt Try.prog (tn0 12) 12 8), 1, by kernel_rfl, ?_⟩
  intro S alts e S' h1 h2
  have h1 : sL12_8_0 S = some alts := h1
  unfold sL12_8_0 at h1
  split at h1
  · cases h1
    obtain ⟨hc0, rfl, rfl⟩ := pick_one h2
    exact ⟨FU + 40, (evPiece_loop rfl).trans (lL12_8_0 FU 40 FU _ _ _ _ _ _ _ _ _ _ (ok_val hc0))⟩
  · cases h1
def o12 : OrcT := o11
def t12 : TellT := ((16, 0), sL16_0_0) :: ((12, 8), sL12_8_0) :: t11
abbrev tn12 : FuncId → TAn := mkTn base o12 t12
theorem ok12 : TnOk Try.prog tn12 (mkA base) dOk := by
  have h0 : TnOk Try.prog (mkTn base o11 t11) (mkA base) dOk := ok11
  have h1 := tn_tell h0 h0 (p := ((12, 8), sL12_8_0)) wL12_8_0
  have h2 := tn_tell h0 h1 (p := ((16, 0), sL16_0_0)) wL16_0_0
  exact h2
end Go.Proofs.Ytchgjjgdgbecmaa
