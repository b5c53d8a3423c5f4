/- Functions of the program as plain Lean, and what they come to. Conditions: none. -/
import Derived.Test.YtmhkjafcfpgikaaGreatEwD
import Derived.KernelRfl
import Derived.Test.YtmhkjafcfpgikaaGreatWalkU
open Go Go.Ew
namespace Go.Proofs.YtmhkjafcfpgikaaGreat.T
set_option linter.unusedVariables false
set_option linter.unusedSimpArgs false
set_option maxRecDepth 100000
def decTab : List F6 := [(0, 0, 0, 1, 1, 1), (17, 0, 0, 3, 3, 3), (10, 0, 0, 1, 2, 2), (27, 0, 0, 1, 2, 2), (25, 0, 0, 1, 1, 1), (26, 0, 0, 1, 1, 1), (8, 0, 0, 2, 2, 2), (31, 0, 0, 1, 1, 1), (18, 0, 0, 3, 5, 5), (29, 0, 0, 1, 2, 2), (9, 0, 0, 1, 2, 2), (28, 0, 0, 1, 2, 2), (25, 1, 0, 1, 1, 1), (26, 1, 0, 1, 1, 1), (8, 1, 0, 2, 2, 2), (31, 1, 0, 1, 1, 1), (1, 0, 0, 2, 2, 2), (17, 1, 0, 3, 3, 3), (10, 1, 0, 1, 2, 2), (27, 1, 0, 1, 2, 2), (25, 2, 0, 1, 1, 1), (26, 2, 0, 1, 1, 1), (8, 2, 0, 2, 2, 2), (31, 2, 0, 1, 1, 1), (36, 4, 0, 2, 3, 3), (29, 1, 0, 1, 2, 2), (9, 1, 0, 1, 2, 2), (28, 1, 0, 1, 2, 2), (25, 3, 0, 1, 1, 1), (26, 3, 0, 1, 1, 1), (8, 3, 0, 2, 2, 2), (31, 3, 0, 1, 1, 1), (36, 0, 0, 2, 2, 3), (17, 2, 0, 3, 3, 3), (10, 2, 0, 1, 2, 2), (27, 2, 0, 1, 2, 2), (25, 4, 0, 1, 1, 1), (26, 4, 0, 1, 1, 1), (8, 4, 0, 2, 2, 2), (32, 0, 0, 1, 1, 1), (36, 1, 0, 2, 2, 3), (29, 2, 0, 1, 2, 2), (9, 2, 0, 1, 2, 2), (28, 2, 0, 1, 2, 2), (25, 5, 0, 1, 1, 1), (26, 5, 0, 1, 1, 1), (8, 5, 0, 2, 2, 2), (33, 0, 0, 1, 1, 1), (36, 2, 0, 2, 2, 3), (17, 3, 0, 3, 3, 3), (10, 3, 0, 1, 2, 2), (27, 3, 0, 1, 2, 2), (25, 6, 0, 1, 3, 3), (26, 6, 0, 1, 3, 3), (8, 6, 0, 2, 3, 3), (34, 0, 0, 1, 1, 1), (36, 3, 0, 2, 2, 3), (29, 3, 0, 1, 2, 2), (9, 3, 0, 1, 2, 2), (28, 3, 0, 1, 2, 2), (25, 7, 0, 1, 1, 1), (26, 7, 0, 1, 1, 1), (8, 7, 0, 2, 2, 2), (35, 0, 0, 1, 1, 1), (7, 0, 0, 1, 1, 1), (7, 0, 1, 1, 1, 1), (7, 0, 2, 1, 1, 1), (7, 0, 3, 1, 1, 1), (7, 0, 4, 1, 1, 1), (7, 0, 5, 1, 1, 1), (7, 0, 6, 1, 2, 2), (7, 0, 7, 1, 1, 1), (7, 1, 0, 1, 1, 1), (7, 1, 1, 1, 1, 1), (7, 1, 2, 1, 1, 1), (7, 1, 3, 1, 1, 1), (7, 1, 4, 1, 1, 1), (7, 1, 5, 1, 1, 1), (7, 1, 6, 1, 2, 2), (7, 1, 7, 1, 1, 1), (7, 2, 0, 1, 1, 1), (7, 2, 1, 1, 1, 1), (7, 2, 2, 1, 1, 1), (7, 2, 3, 1, 1, 1), (7, 2, 4, 1, 1, 1), (7, 2, 5, 1, 1, 1), (7, 2, 6, 1, 2, 2), (7, 2, 7, 1, 1, 1), (7, 3, 0, 1, 1, 1), (7, 3, 1, 1, 1, 1), (7, 3, 2, 1, 1, 1), (7, 3, 3, 1, 1, 1), (7, 3, 4, 1, 1, 1), (7, 3, 5, 1, 1, 1), (7, 3, 6, 1, 2, 2), (7, 3, 7, 1, 1, 1), (7, 4, 0, 1, 1, 1), (7, 4, 1, 1, 1, 1), (7, 4, 2, 1, 1, 1), (7, 4, 3, 1, 1, 1), (7, 4, 4, 1, 1, 1), (7, 4, 5, 1, 1, 1), (7, 4, 6, 1, 2, 2), (7, 4, 7, 1, 1, 1), (7, 5, 0, 1, 1, 1), (7, 5, 1, 1, 1, 1), (7, 5, 2, 1, 1, 1), (7, 5, 3, 1, 1, 1), (7, 5, 4, 1, 1, 1), (7, 5, 5, 1, 1, 1), (7, 5, 6, 1, 2, 2), (7, 5, 7, 1, 1, 1), (7, 6, 0, 1, 2, 2), (7, 6, 1, 1, 2, 2), (7, 6, 2, 1, 2, 2), (7, 6, 3, 1, 2, 2), (7, 6, 4, 1, 2, 2), (7, 6, 5, 1, 2, 2), (2, 0, 0, 1, 1, 1), (7, 6, 7, 1, 2, 2), (7, 7, 0, 1, 1, 1), (7, 7, 1, 1, 1, 1), (7, 7, 2, 1, 1, 1), (7, 7, 3, 1, 1, 1), (7, 7, 4, 1, 1, 1), (7, 7, 5, 1, 1, 1), (7, 7, 6, 1, 2, 2), (7, 7, 7, 1, 1, 1), (23, 0, 0, 1, 1, 1), (23, 0, 1, 1, 1, 1), (23, 0, 2, 1, 1, 1), (23, 0, 3, 1, 1, 1), (23, 0, 4, 1, 1, 1), (23, 0, 5, 1, 1, 1), (23, 0, 6, 1, 2, 2), (23, 0, 7, 1, 1, 1), (23, 1, 0, 1, 1, 1), (23, 1, 1, 1, 1, 1), (23, 1, 2, 1, 1, 1), (23, 1, 3, 1, 1, 1), (23, 1, 4, 1, 1, 1), (23, 1, 5, 1, 1, 1), (23, 1, 6, 1, 2, 2), (23, 1, 7, 1, 1, 1), (23, 2, 0, 1, 1, 1), (23, 2, 1, 1, 1, 1), (23, 2, 2, 1, 1, 1), (23, 2, 3, 1, 1, 1), (23, 2, 4, 1, 1, 1), (23, 2, 5, 1, 1, 1), (23, 2, 6, 1, 2, 2), (23, 2, 7, 1, 1, 1), (23, 3, 0, 1, 1, 1), (23, 3, 1, 1, 1, 1), (23, 3, 2, 1, 1, 1), (23, 3, 3, 1, 1, 1), (23, 3, 4, 1, 1, 1), (23, 3, 5, 1, 1, 1), (23, 3, 6, 1, 2, 2), (23, 3, 7, 1, 1, 1), (23, 4, 0, 1, 1, 1), (23, 4, 1, 1, 1, 1), (23, 4, 2, 1, 1, 1), (23, 4, 3, 1, 1, 1), (23, 4, 4, 1, 1, 1), (23, 4, 5, 1, 1, 1), (23, 4, 6, 1, 2, 2), (23, 4, 7, 1, 1, 1), (23, 5, 0, 1, 1, 1), (23, 5, 1, 1, 1, 1), (23, 5, 2, 1, 1, 1), (23, 5, 3, 1, 1, 1), (23, 5, 4, 1, 1, 1), (23, 5, 5, 1, 1, 1), (23, 5, 6, 1, 2, 2), (23, 5, 7, 1, 1, 1), (23, 6, 0, 1, 1, 1), (23, 6, 1, 1, 1, 1), (23, 6, 2, 1, 1, 1), (23, 6, 3, 1, 1, 1), (23, 6, 4, 1, 1, 1), (23, 6, 5, 1, 1, 1), (23, 6, 6, 1, 2, 2), (23, 6, 7, 1, 1, 1), (23, 7, 0, 1, 1, 1), (23, 7, 1, 1, 1, 1), (23, 7, 2, 1, 1, 1), (23, 7, 3, 1, 1, 1), (23, 7, 4, 1, 1, 1), (23, 7, 5, 1, 1, 1), (23, 7, 6, 1, 2, 2), (23, 7, 7, 1, 1, 1), (40, 0, 0, 1, 2, 5), (22, 0, 0, 1, 3, 3), (37, 0, 0, 3, 3, 4), (37, 4, 0, 3, 4, 4), (39, 0, 0, 3, 3, 6), (21, 0, 0, 1, 4, 4), (24, 0, 0, 2, 2, 2), (42, 0, 0, 1, 4, 4), (40, 1, 0, 1, 2, 5), (40, 4, 0, 1, 4, 4), (37, 1, 0, 3, 3, 4), (6, 0, 0, 1, 1, 1), (39, 1, 0, 3, 3, 6), (39, 4, 0, 3, 6, 6), (24, 1, 0, 2, 2, 2), (42, 1, 0, 1, 4, 4), (40, 2, 0, 1, 2, 5), (22, 1, 0, 1, 3, 3), (37, 2, 0, 3, 3, 4), (5, 0, 0, 1, 1, 1), (39, 2, 0, 3, 3, 6), (21, 1, 0, 1, 4, 4), (24, 2, 0, 2, 2, 2), (42, 2, 0, 1, 4, 4), (40, 3, 0, 1, 2, 5), (41, 0, 0, 1, 4, 4), (37, 3, 0, 3, 3, 4), (5, 0, 0, 1, 1, 1), (39, 3, 0, 3, 3, 6), (5, 0, 0, 1, 1, 1), (24, 3, 0, 2, 2, 2), (42, 3, 0, 1, 4, 4), (12, 0, 0, 2, 3, 3), (22, 2, 0, 1, 3, 3), (14, 0, 0, 1, 2, 2), (5, 0, 0, 1, 1, 1), (5, 0, 0, 1, 1, 1), (21, 2, 0, 1, 4, 4), (24, 4, 0, 2, 2, 2), (42, 4, 0, 1, 4, 4), (30, 0, 0, 2, 4, 4), (38, 0, 0, 1, 1, 1), (16, 0, 0, 3, 4, 4), (5, 0, 0, 1, 1, 1), (5, 0, 0, 1, 1, 1), (5, 0, 0, 1, 1, 1), (24, 5, 0, 2, 2, 2), (42, 5, 0, 1, 4, 4), (11, 0, 0, 2, 3, 3), (22, 4, 0, 1, 3, 3), (13, 0, 0, 1, 2, 2), (3, 0, 0, 1, 1, 1), (5, 0, 0, 1, 1, 1), (21, 4, 0, 1, 4, 4), (24, 6, 0, 2, 2, 2), (42, 6, 0, 1, 4, 4), (20, 0, 0, 2, 3, 3), (19, 0, 0, 1, 2, 2), (15, 0, 0, 3, 4, 4), (4, 0, 0, 1, 1, 1), (5, 0, 0, 1, 1, 1), (5, 0, 0, 1, 1, 1), (24, 7, 0, 2, 2, 2), (42, 7, 0, 1, 4, 4)]
def cbTab : List F6 := [(43, 0, 0, 2, 2, 2), (43, 0, 1, 2, 2, 2), (43, 0, 2, 2, 2, 2), (43, 0, 3, 2, 2, 2), (43, 0, 4, 2, 2, 2), (43, 0, 5, 2, 2, 2), (43, 0, 6, 2, 4, 4), (43, 0, 7, 2, 2, 2), (43, 1, 0, 2, 2, 2), (43, 1, 1, 2, 2, 2), (43, 1, 2, 2, 2, 2), (43, 1, 3, 2, 2, 2), (43, 1, 4, 2, 2, 2), (43, 1, 5, 2, 2, 2), (43, 1, 6, 2, 4, 4), (43, 1, 7, 2, 2, 2), (43, 2, 0, 2, 2, 2), (43, 2, 1, 2, 2, 2), (43, 2, 2, 2, 2, 2), (43, 2, 3, 2, 2, 2), (43, 2, 4, 2, 2, 2), (43, 2, 5, 2, 2, 2), (43, 2, 6, 2, 4, 4), (43, 2, 7, 2, 2, 2), (43, 3, 0, 2, 2, 2), (43, 3, 1, 2, 2, 2), (43, 3, 2, 2, 2, 2), (43, 3, 3, 2, 2, 2), (43, 3, 4, 2, 2, 2), (43, 3, 5, 2, 2, 2), (43, 3, 6, 2, 4, 4), (43, 3, 7, 2, 2, 2), (43, 4, 0, 2, 2, 2), (43, 4, 1, 2, 2, 2), (43, 4, 2, 2, 2, 2), (43, 4, 3, 2, 2, 2), (43, 4, 4, 2, 2, 2), (43, 4, 5, 2, 2, 2), (43, 4, 6, 2, 4, 4), (43, 4, 7, 2, 2, 2), (43, 5, 0, 2, 2, 2), (43, 5, 1, 2, 2, 2), (43, 5, 2, 2, 2, 2), (43, 5, 3, 2, 2, 2), (43, 5, 4, 2, 2, 2), (43, 5, 5, 2, 2, 2), (43, 5, 6, 2, 4, 4), (43, 5, 7, 2, 2, 2), (43, 6, 0, 2, 2, 2), (43, 6, 1, 2, 2, 2), (43, 6, 2, 2, 2, 2), (43, 6, 3, 2, 2, 2), (43, 6, 4, 2, 2, 2), (43, 6, 5, 2, 2, 2), (43, 6, 6, 2, 4, 4), (43, 6, 7, 2, 2, 2), (43, 7, 0, 2, 2, 2), (43, 7, 1, 2, 2, 2), (43, 7, 2, 2, 2, 2), (43, 7, 3, 2, 2, 2), (43, 7, 4, 2, 2, 2), (43, 7, 5, 2, 2, 2), (43, 7, 6, 2, 4, 4), (43, 7, 7, 2, 2, 2), (44, 0, 0, 2, 2, 2), (44, 0, 1, 2, 2, 2), (44, 0, 2, 2, 2, 2), (44, 0, 3, 2, 2, 2), (44, 0, 4, 2, 2, 2), (44, 0, 5, 2, 2, 2), (44, 0, 6, 2, 3, 3), (44, 0, 7, 2, 2, 2), (44, 1, 0, 2, 2, 2), (44, 1, 1, 2, 2, 2), (44, 1, 2, 2, 2, 2), (44, 1, 3, 2, 2, 2), (44, 1, 4, 2, 2, 2), (44, 1, 5, 2, 2, 2), (44, 1, 6, 2, 3, 3), (44, 1, 7, 2, 2, 2), (44, 2, 0, 2, 2, 2), (44, 2, 1, 2, 2, 2), (44, 2, 2, 2, 2, 2), (44, 2, 3, 2, 2, 2), (44, 2, 4, 2, 2, 2), (44, 2, 5, 2, 2, 2), (44, 2, 6, 2, 3, 3), (44, 2, 7, 2, 2, 2), (44, 3, 0, 2, 2, 2), (44, 3, 1, 2, 2, 2), (44, 3, 2, 2, 2, 2), (44, 3, 3, 2, 2, 2), (44, 3, 4, 2, 2, 2), (44, 3, 5, 2, 2, 2), (44, 3, 6, 2, 3, 3), (44, 3, 7, 2, 2, 2), (44, 4, 0, 2, 2, 2), (44, 4, 1, 2, 2, 2), (44, 4, 2, 2, 2, 2), (44, 4, 3, 2, 2, 2), (44, 4, 4, 2, 2, 2), (44, 4, 5, 2, 2, 2), (44, 4, 6, 2, 3, 3), (44, 4, 7, 2, 2, 2), (44, 5, 0, 2, 2, 2), (44, 5, 1, 2, 2, 2), (44, 5, 2, 2, 2, 2), (44, 5, 3, 2, 2, 2), (44, 5, 4, 2, 2, 2), (44, 5, 5, 2, 2, 2), (44, 5, 6, 2, 3, 3), (44, 5, 7, 2, 2, 2), (44, 6, 0, 2, 2, 2), (44, 6, 1, 2, 2, 2), (44, 6, 2, 2, 2, 2), (44, 6, 3, 2, 2, 2), (44, 6, 4, 2, 2, 2), (44, 6, 5, 2, 2, 2), (44, 6, 6, 2, 3, 3), (44, 6, 7, 2, 2, 2), (44, 7, 0, 2, 2, 2), (44, 7, 1, 2, 2, 2), (44, 7, 2, 2, 2, 2), (44, 7, 3, 2, 2, 2), (44, 7, 4, 2, 2, 2), (44, 7, 5, 2, 2, 2), (44, 7, 6, 2, 3, 3), (44, 7, 7, 2, 2, 2), (45, 0, 0, 2, 2, 2), (45, 0, 1, 2, 2, 2), (45, 0, 2, 2, 2, 2), (45, 0, 3, 2, 2, 2), (45, 0, 4, 2, 2, 2), (45, 0, 5, 2, 2, 2), (45, 0, 6, 2, 4, 4), (45, 0, 7, 2, 2, 2), (45, 1, 0, 2, 2, 2), (45, 1, 1, 2, 2, 2), (45, 1, 2, 2, 2, 2), (45, 1, 3, 2, 2, 2), (45, 1, 4, 2, 2, 2), (45, 1, 5, 2, 2, 2), (45, 1, 6, 2, 4, 4), (45, 1, 7, 2, 2, 2), (45, 2, 0, 2, 2, 2), (45, 2, 1, 2, 2, 2), (45, 2, 2, 2, 2, 2), (45, 2, 3, 2, 2, 2), (45, 2, 4, 2, 2, 2), (45, 2, 5, 2, 2, 2), (45, 2, 6, 2, 4, 4), (45, 2, 7, 2, 2, 2), (45, 3, 0, 2, 2, 2), (45, 3, 1, 2, 2, 2), (45, 3, 2, 2, 2, 2), (45, 3, 3, 2, 2, 2), (45, 3, 4, 2, 2, 2), (45, 3, 5, 2, 2, 2), (45, 3, 6, 2, 4, 4), (45, 3, 7, 2, 2, 2), (45, 4, 0, 2, 2, 2), (45, 4, 1, 2, 2, 2), (45, 4, 2, 2, 2, 2), (45, 4, 3, 2, 2, 2), (45, 4, 4, 2, 2, 2), (45, 4, 5, 2, 2, 2), (45, 4, 6, 2, 4, 4), (45, 4, 7, 2, 2, 2), (45, 5, 0, 2, 2, 2), (45, 5, 1, 2, 2, 2), (45, 5, 2, 2, 2, 2), (45, 5, 3, 2, 2, 2), (45, 5, 4, 2, 2, 2), (45, 5, 5, 2, 2, 2), (45, 5, 6, 2, 4, 4), (45, 5, 7, 2, 2, 2), (45, 6, 0, 2, 2, 2), (45, 6, 1, 2, 2, 2), (45, 6, 2, 2, 2, 2), (45, 6, 3, 2, 2, 2), (45, 6, 4, 2, 2, 2), (45, 6, 5, 2, 2, 2), (45, 6, 6, 2, 4, 4), (45, 6, 7, 2, 2, 2), (45, 7, 0, 2, 2, 2), (45, 7, 1, 2, 2, 2), (45, 7, 2, 2, 2, 2), (45, 7, 3, 2, 2, 2), (45, 7, 4, 2, 2, 2), (45, 7, 5, 2, 2, 2), (45, 7, 6, 2, 4, 4), (45, 7, 7, 2, 2, 2), (46, 0, 0, 2, 2, 2), (46, 0, 1, 2, 2, 2), (46, 0, 2, 2, 2, 2), (46, 0, 3, 2, 2, 2), (46, 0, 4, 2, 2, 2), (46, 0, 5, 2, 2, 2), (46, 0, 6, 2, 4, 4), (46, 0, 7, 2, 2, 2), (46, 1, 0, 2, 2, 2), (46, 1, 1, 2, 2, 2), (46, 1, 2, 2, 2, 2), (46, 1, 3, 2, 2, 2), (46, 1, 4, 2, 2, 2), (46, 1, 5, 2, 2, 2), (46, 1, 6, 2, 4, 4), (46, 1, 7, 2, 2, 2), (46, 2, 0, 2, 2, 2), (46, 2, 1, 2, 2, 2), (46, 2, 2, 2, 2, 2), (46, 2, 3, 2, 2, 2), (46, 2, 4, 2, 2, 2), (46, 2, 5, 2, 2, 2), (46, 2, 6, 2, 4, 4), (46, 2, 7, 2, 2, 2), (46, 3, 0, 2, 2, 2), (46, 3, 1, 2, 2, 2), (46, 3, 2, 2, 2, 2), (46, 3, 3, 2, 2, 2), (46, 3, 4, 2, 2, 2), (46, 3, 5, 2, 2, 2), (46, 3, 6, 2, 4, 4), (46, 3, 7, 2, 2, 2), (46, 4, 0, 2, 2, 2), (46, 4, 1, 2, 2, 2), (46, 4, 2, 2, 2, 2), (46, 4, 3, 2, 2, 2), (46, 4, 4, 2, 2, 2), (46, 4, 5, 2, 2, 2), (46, 4, 6, 2, 4, 4), (46, 4, 7, 2, 2, 2), (46, 5, 0, 2, 2, 2), (46, 5, 1, 2, 2, 2), (46, 5, 2, 2, 2, 2), (46, 5, 3, 2, 2, 2), (46, 5, 4, 2, 2, 2), (46, 5, 5, 2, 2, 2), (46, 5, 6, 2, 4, 4), (46, 5, 7, 2, 2, 2), (46, 6, 0, 2, 2, 2), (46, 6, 1, 2, 2, 2), (46, 6, 2, 2, 2, 2), (46, 6, 3, 2, 2, 2), (46, 6, 4, 2, 2, 2), (46, 6, 5, 2, 2, 2), (46, 6, 6, 2, 4, 4), (46, 6, 7, 2, 2, 2), (46, 7, 0, 2, 2, 2), (46, 7, 1, 2, 2, 2), (46, 7, 2, 2, 2, 2), (46, 7, 3, 2, 2, 2), (46, 7, 4, 2, 2, 2), (46, 7, 5, 2, 2, 2), (46, 7, 6, 2, 4, 4), (46, 7, 7, 2, 2, 2)]
def decS (op : Int) : F6 := decTab.getD op.toNat (0, 0, 0, 0, 0, 0)
def cbS (op : Int) : F6 := cbTab.getD op.toNat (0, 0, 0, 0, 0, 0)
def formS (op : Int) (cb : Bool) : F6 := if cb = true then cbS op else decS op
def chk6 (o : Option (F6 × Unit)) (p : F6) : Bool := match o with
  | some x => x.1.1 == p.1 && x.1.2.1 == p.2.1 && x.1.2.2.1 == p.2.2.1 && x.1.2.2.2.1 == p.2.2.2.1 && x.1.2.2.2.2.1 == p.2.2.2.2.1 && x.1.2.2.2.2.2 == p.2.2.2.2.2
  | none => false
theorem chk6_eq {o : Option (F6 × Unit)} {p : F6} (h : chk6 o p = true) : o = some (p, ()) := by
  cases o with
  | none => simp [chk6] at h
  | some x =>
    obtain ⟨⟨a, b, c, d, e, f⟩, u⟩ := x
    obtain ⟨a', b', c', d', e', f'⟩ := p
    simp only [chk6, Bool.and_eq_true, beq_iff_eq] at h
    obtain ⟨⟨⟨⟨⟨rfl, rfl⟩, rfl⟩, rfl⟩, rfl⟩, rfl⟩ := h
    rfl
/-! the document's rows, reckoned -/
def bitC (x : Int × Int × Unit) : Option (Bool × Unit) := if 0 ≤ x.1 ∧ x.1 ≤ 255 ∧ 0 ≤ x.2.1 ∧ x.2.1 < 8 then some (bitB x.1 x.2.1.toNat, ()) else none
theorem iterN_mono2 {α β : Type} {s1 s2 : α → Option (α ⊕ β)} (h : ∀ a b, s1 a = some b → s2 a = some b) : ∀ (n : Nat) (a : α) (b : β), iterN s1 n a = some b → iterN s2 n a = some b
  | 0, _, _, e => by simp [iterN] at e
  | n + 1, a, b, e => by
    simp only [iterN] at e ⊢
    split at e
    · rename_i a' e1; rw [h _ _ e1]; exact iterN_mono2 h n a' b e
    · rename_i b' e1; rw [h _ _ e1]; exact e
    · simp at e
theorem bind_mono {α β : Type} {x y : Option α} (h : ∀ a, x = some a → y = some a) {f g : α → Option β} (hf : ∀ a b, f a = some b → g a = some b) {b : β} (e : x.bind f = some b) : y.bind g = some b := by
  obtain ⟨a, ha, hb⟩ := Option.bind_eq_some_iff.1 e
  rw [h a ha]; exact hf a b hb
theorem ite_mono {α : Type} {c : Prop} [Decidable c] {x y u v : Option α} (h1 : ∀ b, x = some b → u = some b) (h2 : ∀ b, y = some b → v = some b) {b : α} (e : (if c then x else y) = some b) : (if c then u else v) = some b := by
  split
  · rename_i hc; rw [if_pos hc] at e; exact h1 b e
  · rename_i hc; rw [if_neg hc] at e; exact h2 b e
noncomputable def tblD : FuncId → Option Func
  | 102 => some Go.Proofs.Tryz.f102
  | 101 => some Go.Proofs.Tryz.f101
  | 176 => some Go.Proofs.Tryz.f176
  | 177 => some Go.Proofs.Tryz.f177
  | 178 => some Go.Proofs.Tryz.f178
  | 179 => some Go.Proofs.Tryz.f179
  | 204 => some Go.Proofs.Tryz.f204
  | 205 => some Go.Proofs.Tryz.f205
  | 206 => some Go.Proofs.Tryz.f206
  | _ => none
theorem tblD_ok : TblOK Go.Proofs.Tryz.prog tblD := by
  intro g fn h
  unfold tblD at h
  split at h
  · simp only [Option.some.injEq] at h; subst h; exact ⟨Go.Proofs.Tryz.func102, by kernel_rfl⟩
  · simp only [Option.some.injEq] at h; subst h; exact ⟨Go.Proofs.Tryz.func101, by kernel_rfl⟩
  · simp only [Option.some.injEq] at h; subst h; exact ⟨Go.Proofs.Tryz.func176, by kernel_rfl⟩
  · simp only [Option.some.injEq] at h; subst h; exact ⟨Go.Proofs.Tryz.func177, by kernel_rfl⟩
  · simp only [Option.some.injEq] at h; subst h; exact ⟨Go.Proofs.Tryz.func178, by kernel_rfl⟩
  · simp only [Option.some.injEq] at h; subst h; exact ⟨Go.Proofs.Tryz.func179, by kernel_rfl⟩
  · simp only [Option.some.injEq] at h; subst h; exact ⟨Go.Proofs.Tryz.func204, by kernel_rfl⟩
  · simp only [Option.some.injEq] at h; subst h; exact ⟨Go.Proofs.Tryz.func205, by kernel_rfl⟩
  · simp only [Option.some.injEq] at h; subst h; exact ⟨Go.Proofs.Tryz.func206, by kernel_rfl⟩
  · simp at h

noncomputable def evD (g : FuncId) (n : Nat) : Option (F6 × Unit) := fnF Go.Proofs.Tryz.prog tblD [] (losL (P := Go.Proofs.Tryz.prog) []) 60 10 g [.k (.i .u8)] [.agg ⟨.i .i64, [.i .i64, .i .i64, .i .i64, .i .i64, .i .i64]⟩] ((n : Int), ())
theorem opcode_Decode_c0 : (List.range' 0 32).all (fun n => chk6 (evD 102 n) (decS (n : Int))) = true := by kernel_rfl
theorem opcode_Decode_c1 : (List.range' 32 32).all (fun n => chk6 (evD 102 n) (decS (n : Int))) = true := by kernel_rfl
theorem opcode_Decode_c2 : (List.range' 64 32).all (fun n => chk6 (evD 102 n) (decS (n : Int))) = true := by kernel_rfl
theorem opcode_Decode_c3 : (List.range' 96 32).all (fun n => chk6 (evD 102 n) (decS (n : Int))) = true := by kernel_rfl
theorem opcode_Decode_c4 : (List.range' 128 32).all (fun n => chk6 (evD 102 n) (decS (n : Int))) = true := by kernel_rfl
theorem opcode_Decode_c5 : (List.range' 160 32).all (fun n => chk6 (evD 102 n) (decS (n : Int))) = true := by kernel_rfl
theorem opcode_Decode_c6 : (List.range' 192 32).all (fun n => chk6 (evD 102 n) (decS (n : Int))) = true := by kernel_rfl
theorem opcode_Decode_c7 : (List.range' 224 32).all (fun n => chk6 (evD 102 n) (decS (n : Int))) = true := by kernel_rfl
theorem opcode_DecodeCB_c0 : (List.range' 0 64).all (fun n => chk6 (evD 101 n) (cbS (n : Int))) = true := by kernel_rfl
theorem opcode_DecodeCB_c1 : (List.range' 64 64).all (fun n => chk6 (evD 101 n) (cbS (n : Int))) = true := by kernel_rfl
theorem opcode_DecodeCB_c2 : (List.range' 128 64).all (fun n => chk6 (evD 101 n) (cbS (n : Int))) = true := by kernel_rfl
theorem opcode_DecodeCB_c3 : (List.range' 192 64).all (fun n => chk6 (evD 101 n) (cbS (n : Int))) = true := by kernel_rfl

noncomputable def tabF (S : Int → F6) : Int × Unit → Option (F6 × Unit) := fun x => if 0 ≤ x.1 ∧ x.1 ≤ 255 then some (S x.1, ()) else none
theorem tab_ok {g : FuncId} {S : Int → F6} (h : ∀ n, n < 256 → chk6 (evD g n) (S (n : Int)) = true) : PureOK Go.Proofs.Tryz.prog g [.k (.i .u8)] [.agg ⟨.i .i64, [.i .i64, .i .i64, .i .i64, .i .i64, .i .i64]⟩] (tabF S) := by
  intro x y hx
  unfold tabF at hx
  split at hx
  · rename_i hc
    obtain ⟨v, u⟩ := x
    have h1 := chk6_eq (h v.toNat (by simp only at hc; omega))
    rw [Int.toNat_of_nonneg hc.1] at h1
    rw [hx] at h1
    unfold evD at h1
    rw [Int.toNat_of_nonneg hc.1] at h1
    have key : PureOK Go.Proofs.Tryz.prog g [.k (.i .u8)] [.agg ⟨.i .i64, [.i .i64, .i .i64, .i .i64, .i .i64, .i .i64]⟩] (fnF Go.Proofs.Tryz.prog tblD [] (losL (P := Go.Proofs.Tryz.prog) []) 60 10 g [.k (.i .u8)] [.agg ⟨.i .i64, [.i .i64, .i .i64, .i .i64, .i .i64, .i .i64]⟩]) := fnF_ok tblD_ok (fun R => losL_ok []) rfl rfl
    exact key (v, ()) y h1
  · simp at hx
@[reducible] def opcode_Decode.as : List Shp := [.k (.i .u8)]
@[reducible] def opcode_Decode.rs : List Shp := [.agg ⟨.i .i64, [.i .i64, .i .i64, .i .i64, .i .i64, .i .i64]⟩]
noncomputable def opcode_Decode.F : Int × Unit → Option (F6 × Unit) := tabF decS
theorem opcode_Decode.ok : PureOK Go.Proofs.Tryz.prog 102 opcode_Decode.as opcode_Decode.rs opcode_Decode.F := tab_ok fun n hn => by
  have key : ∀ a, a ≤ n → n < a + 32 → (List.range' a 32).all (fun n => chk6 (evD 102 n) (decS (n : Int))) = true → chk6 (evD 102 n) (decS (n : Int)) = true := fun a h1 h2 h => List.all_eq_true.1 h n (List.mem_range'_1.2 ⟨h1, h2⟩)
  by_cases h0 : n < 32
  · exact key 0 (by omega) (by omega) opcode_Decode_c0
  by_cases h1 : n < 64
  · exact key 32 (by omega) (by omega) opcode_Decode_c1
  by_cases h2 : n < 96
  · exact key 64 (by omega) (by omega) opcode_Decode_c2
  by_cases h3 : n < 128
  · exact key 96 (by omega) (by omega) opcode_Decode_c3
  by_cases h4 : n < 160
  · exact key 128 (by omega) (by omega) opcode_Decode_c4
  by_cases h5 : n < 192
  · exact key 160 (by omega) (by omega) opcode_Decode_c5
  by_cases h6 : n < 224
  · exact key 192 (by omega) (by omega) opcode_Decode_c6
  exact key 224 (by omega) (by omega) opcode_Decode_c7
@[reducible] def opcode_DecodeCB.as : List Shp := [.k (.i .u8)]
@[reducible] def opcode_DecodeCB.rs : List Shp := [.agg ⟨.i .i64, [.i .i64, .i .i64, .i .i64, .i .i64, .i .i64]⟩]
noncomputable def opcode_DecodeCB.F : Int × Unit → Option (F6 × Unit) := tabF cbS
theorem opcode_DecodeCB.ok : PureOK Go.Proofs.Tryz.prog 101 opcode_DecodeCB.as opcode_DecodeCB.rs opcode_DecodeCB.F := tab_ok fun n hn => by
  have key : ∀ a, a ≤ n → n < a + 64 → (List.range' a 64).all (fun n => chk6 (evD 101 n) (cbS (n : Int))) = true → chk6 (evD 101 n) (cbS (n : Int)) = true := fun a h1 h2 h => List.all_eq_true.1 h n (List.mem_range'_1.2 ⟨h1, h2⟩)
  by_cases h0 : n < 64
  · exact key 0 (by omega) (by omega) opcode_DecodeCB_c0
  by_cases h1 : n < 128
  · exact key 64 (by omega) (by omega) opcode_DecodeCB_c1
  by_cases h2 : n < 192
  · exact key 128 (by omega) (by omega) opcode_DecodeCB_c2
  exact key 192 (by omega) (by omega) opcode_DecodeCB_c3
end Go.Proofs.YtmhkjafcfpgikaaGreat.T
