/- Functions of the program as plain Lean, and what they come to. Conditions: none. -/
import Derived.Test.YtkdeheoonannoaaDoorEwD
import Derived.KernelRfl
import Derived.Test.YtkdeheoonannoaaDoorWalkU
open Go Go.Ew
namespace Go.Proofs.YtkdeheoonannoaaDoor.T
set_option linter.unusedVariables false
set_option linter.unusedSimpArgs false
set_option maxRecDepth 100000
def decTab : List F6 := [(0, 0, 0, 1, 1, 1), (17, 0, 0, 3, 3, 3), (10, 0, 0, 1, 2, 2), (27, 0, 0, 1, 2, 2), (25, 0, 0, 1, 1, 1), (26, 0, 0, 1, 1, 1), (8, 0, 0, 2, 2, 2), (31, 0, 0, 1, 1, 1), (18, 0, 0, 3, 5, 5), (29, 0, 0, 1, 2, 2), (9, 0, 0, 1, 2, 2), (28, 0, 0, 1, 2, 2), (25, 1, 0, 1, 1, 1), (26, 1, 0, 1, 1, 1), (8, 1, 0, 2, 2, 2), (31, 1, 0, 1, 1, 1), (1, 0, 0, 2, 2, 2), (17, 1, 0, 3, 3, 3), (10, 1, 0, 1, 2, 2), (27, 1, 0, 1, 2, 2), (25, 2, 0, 1, 1, 1), (26, 2, 0, 1, 1, 1), (8, 2, 0, 2, 2, 2), (31, 2, 0, 1, 1, 1), (36, 4, 0, 2, 3, 3), (29, 1, 0, 1, 2, 2), (9, 1, 0, 1, 2, 2), (28, 1, 0, 1, 2, 2), (25, 3, 0, 1, 1, 1), (26, 3, 0, 1, 1, 1), (8, 3, 0, 2, 2, 2), (31, 3, 0, 1, 1, 1), (36, 0, 0, 2, 2, 3), (17, 2, 0, 3, 3, 3), (10, 2, 0, 1, 2, 2), (27, 2, 0, 1, 2, 2), (25, 4, 0, 1, 1, 1), (26, 4, 0, 1, 1, 1), (8, 4, 0, 2, 2, 2), (32, 0, 0, 1, 1, 1), (36, 1, 0, 2, 2, 3), (29, 2, 0, 1, 2, 2), (9, 2, 0, 1, 2, 2), (28, 2, 0, 1, 2, 2), (25, 5, 0, 1, 1, 1), (26, 5, 0, 1, 1, 1), (8, 5, 0, 2, 2, 2), (33, 0, 0, 1, 1, 1), (36, 2, 0, 2, 2, 3), (17, 3, 0, 3, 3, 3), (10, 3, 0, 1, 2, 2), (27, 3, 0, 1, 2, 2), (25, 6, 0, 1, 3, 3), (26, 6, 0, 1, 3, 3), (8, 6, 0, 2, 3, 3), (34, 0, 0, 1, 1, 1), (36, 3, 0, 2, 2, 3), (29, 3, 0, 1, 2, 2), (9, 3, 0, 1, 2, 2), (28, 3, 0, 1, 2, 2), (25, 7, 0, 1, 1, 1), (26, 7, 0, 1, 1, 1), (8, 7, 0, 2, 2, 2), (35, 0, 0, 1, 1, 1), (7, 0, 0, 1, 1, 1), (7, 0, 1, 1, 1, 1), (7, 0, 2, 1, 1, 1), (7, 0, 3, 1, 1, 1), (7, 0, 4, 1, 1, 1), (7, 0, 5, 1, 1, 1), (7, 0, 6, 1, 2, 2), (7, 0, 7, 1, 1, 1), (7, 1, 0, 1, 1, 1), (7, 1, 1, 1, 1, 1), (7, 1, 2, 1, 1, 1), (7, 1, 3, 1, 1, 1), (7, 1, 4, 1, 1, 1), (7, 1, 5, 1, 1, 1), (7, 1, 6, 1, 2, 2), (7, 1, 7, 1, 1, 1), (7, 2, 0, 1, 1, 1), (7, 2, 1, 1, 1, 1), (7, 2, 2, 1, 1, 1), (7, 2, 3, 1, 1, 1), (7, 2, 4, 1, 1, 1), (7, 2, 5, 1, 1, 1), (7, 2, 6, 1, 2, 2), (7, 2, 7, 1, 1, 1), (7, 3, 0, 1, 1, 1), (7, 3, 1, 1, 1, 1), (7, 3, 2, 1, 1, 1), (7, 3, 3, 1, 1, 1), (7, 3, 4, 1, 1, 1), (7, 3, 5, 1, 1, 1), (7, 3, 6, 1, 2, 2), (7, 3, 7, 1, 1, 1), (7, 4, 0, 1, 1, 1), (7, 4, 1, 1, 1, 1), (7, 4, 2, 1, 1, 1), (7, 4, 3, 1, 1, 1), (7, 4, 4, 1, 1, 1), (7, 4, 5, 1, 1, 1), (7, 4, 6, 1, 2, 2), (7, 4, 7, 1, 1, 1), (7, 5, 0, 1, 1, 1), (7, 5, 1, 1, 1, 1), (7, 5, 2, 1, 1, 1), (7, 5, 3, 1, 1, 1), (7, 5, 4, 1, 1, 1), (7, 5, 5, 1, 1, 1), (7, 5, 6, 1, 2, 2), (7, 5, 7, 1, 1, 1), (7, 6, 0, 1, 2, 2), (7, 6, 1, 1, 2, 2), (7, 6, 2, 1, 2, 2), (7, 6, 3, 1, 2, 2), (7, 6, 4, 1, 2, 2), (7, 6, 5, 1, 2, 2), (2, 0, 0, 1, 1, 1), (7, 6, 7, 1, 2, 2), (7, 7, 0, 1, 1, 1), (7, 7, 1, 1, 1, 1), (7, 7, 2, 1, 1, 1), (7, 7, 3, 1, 1, 1), (7, 7, 4, 1, 1, 1), (7, 7, 5, 1, 1, 1), (7, 7, 6, 1, 2, 2), (7, 7, 7, 1, 1, 1), (23, 0, 0, 1, 1, 1), (23, 0, 1, 1, 1, 1), (23, 0, 2, 1, 1, 1), (23, 0, 3, 1, 1, 1), (23, 0, 4, 1, 1, 1), (23, 0, 5, 1, 1, 1), (23, 0, 6, 1, 2, 2), (23, 0, 7, 1, 1, 1), (23, 1, 0, 1, 1, 1), (23, 1, 1, 1, 1, 1), (23, 1, 2, 1, 1, 1), (23, 1, 3, 1, 1, 1), (23, 1, 4, 1, 1, 1), (23, 1, 5, 1, 1, 1), (23, 1, 6, 1, 2, 2), (23, 1, 7, 1, 1, 1), (23, 2, 0, 1, 1, 1), (23, 2, 1, 1, 1, 1), (23, 2, 2, 1, 1, 1), (23, 2, 3, 1, 1, 1), (23, 2, 4, 1, 1, 1), (23, 2, 5, 1, 1, 1), (23, 2, 6, 1, 2, 2), (23, 2, 7, 1, 1, 1), (23, 3, 0, 1, 1, 1), (23, 3, 1, 1, 1, 1), (23, 3, 2, 1, 1, 1), (23, 3, 3, 1, 1, 1), (23, 3, 4, 1, 1, 1), (23, 3, 5, 1, 1, 1), (23, 3, 6, 1, 2, 2), (23, 3, 7, 1, 1, 1), (23, 4, 0, 1, 1, 1), (23, 4, 1, 1, 1, 1), (23, 4, 2, 1, 1, 1), (23, 4, 3, 1, 1, 1), (23, 4, 4, 1, 1, 1), (23, 4, 5, 1, 1, 1), (23, 4, 6, 1, 2, 2), (23, 4, 7, 1, 1, 1), (23, 5, 0, 1, 1, 1), (23, 5, 1, 1, 1, 1), (23, 5, 2, 1, 1, 1), (23, 5, 3, 1, 1, 1), (23, 5, 4, 1, 1, 1), (23, 5, 5, 1, 1, 1), (23, 5, 6, 1, 2, 2), (23, 5, 7, 1, 1, 1), (23, 6, 0, 1, 1, 1), (23, 6, 1, 1, 1, 1), (23, 6, 2, 1, 1, 1), (23, 6, 3, 1, 1, 1), (23, 6, 4, 1, 1, 1), (23, 6, 5, 1, 1, 1), (23, 6, 6, 1, 2, 2), (23, 6, 7, 1, 1, 1), (23, 7, 0, 1, 1, 1), (23, 7, 1, 1, 1, 1), (23, 7, 2, 1, 1, 1), (23, 7, 3, 1, 1, 1), (23, 7, 4, 1, 1, 1), (23, 7, 5, 1, 1, 1), (23, 7, 6, 1, 2, 2), (23, 7, 7, 1, 1, 1), (40, 0, 0, 1, 2, 5), (22, 0, 0, 1, 3, 3), (37, 0, 0, 3, 3, 4), (37, 4, 0, 3, 4, 4), (39, 0, 0, 3, 3, 6), (21, 0, 0, 1, 4, 4), (24, 0, 0, 2, 2, 2), (42, 0, 0, 1, 4, 4), (40, 1, 0, 1, 2, 5), (40, 4, 0, 1, 4, 4), (37, 1, 0, 3, 3, 4), (6, 0, 0, 1, 1, 1), (39, 1, 0, 3, 3, 6), (39, 4, 0, 3, 6, 6), (24, 1, 0, 2, 2, 2), (42, 1, 0, 1, 4, 4), (40, 2, 0, 1, 2, 5), (22, 1, 0, 1, 3, 3), (37, 2, 0, 3, 3, 4), (5, 0, 0, 1, 1, 1), (39, 2, 0, 3, 3, 6), (21, 1, 0, 1, 4, 4), (24, 2, 0, 2, 2, 2), (42, 2, 0, 1, 4, 4), (40, 3, 0, 1, 2, 5), (41, 0, 0, 1, 4, 4), (37, 3, 0, 3, 3, 4), (5, 0, 0, 1, 1, 1), (39, 3, 0, 3, 3, 6), (5, 0, 0, 1, 1, 1), (24, 3, 0, 2, 2, 2), (42, 3, 0, 1, 4, 4), (12, 0, 0, 2, 3, 3), (22, 2, 0, 1, 3, 3), (14, 0, 0, 1, 2, 2), (5, 0, 0, 1, 1, 1), (5, 0, 0, 1, 1, 1), (21, 2, 0, 1, 4, 4), (24, 4, 0, 2, 2, 2), (42, 4, 0, 1, 4, 4), (30, 0, 0, 2, 4, 4), (38, 0, 0, 1, 1, 1), (16, 0, 0, 3, 4, 4), (5, 0, 0, 1, 1, 1), (5, 0, 0, 1, 1, 1), (5, 0, 0, 1, 1, 1), (24, 5, 0, 2, 2, 2), (42, 5, 0, 1, 4, 4), (11, 0, 0, 2, 3, 3), (22, 4, 0, 1, 3, 3), (13, 0, 0, 1, 2, 2), (3, 0, 0, 1, 1, 1), (5, 0, 0, 1, 1, 1), (21, 4, 0, 1, 4, 4), (24, 6, 0, 2, 2, 2), (42, 6, 0, 1, 4, 4), (20, 0, 0, 2, 3, 3), (19, 0, 0, 1, 2, 2), (15, 0, 0, 3, 4, 4), (4, 0, 0, 1, 1, 1), (5, 0, 0, 1, 1, 1), (5, 0, 0, 1, 1, 1), (24, 7, 0, 2, 2, 2), (42, 7, 0, 1, 4, 4)]
def cbTab : List F6 := [(43, 0, 0, 2, 2, 2), (43, 0, 1, 2, 2, 2), (43, 0, 2, 2, 2, 2), (43, 0, 3, 2, 2, 2), (43, 0, 4, 2, 2, 2), (43, 0, 5, 2, 2, 2), (43, 0, 6, 2, 4, 4), (43, 0, 7, 2, 2, 2), (43, 1, 0, 2, 2, 2), (43, 1, 1, 2, 2, 2), (43, 1, 2, 2, 2, 2), (43, 1, 3, 2, 2, 2), (43, 1, 4, 2, 2, 2), (43, 1, 5, 2, 2, 2), (43, 1, 6, 2, 4, 4), (43, 1, 7, 2, 2, 2), (43, 2, 0, 2, 2, 2), (43, 2, 1, 2, 2, 2), (43, 2, 2, 2, 2, 2), (43, 2, 3, 2, 2, 2), (43, 2, 4, 2, 2, 2), (43, 2, 5, 2, 2, 2), (43, 2, 6, 2, 4, 4), (43, 2, 7, 2, 2, 2), (43, 3, 0, 2, 2, 2), (43, 3, 1, 2, 2, 2), (43, 3, 2, 2, 2, 2), (43, 3, 3, 2, 2, 2), (43, 3, 4, 2, 2, 2), (43, 3, 5, 2, 2, 2), (43, 3, 6, 2, 4, 4), (43, 3, 7, 2, 2, 2), (43, 4, 0, 2, 2, 2), (43, 4, 1, 2, 2, 2), (43, 4, 2, 2, 2, 2), (43, 4, 3, 2, 2, 2), (43, 4, 4, 2, 2, 2), (43, 4, 5, 2, 2, 2), (43, 4, 6, 2, 4, 4), (43, 4, 7, 2, 2, 2), (43, 5, 0, 2, 2, 2), (43, 5, 1, 2, 2, 2), (43, 5, 2, 2, 2, 2), (43, 5, 3, 2, 2, 2), (43, 5, 4, 2, 2, 2), (43, 5, 5, 2, 2, 2), (43, 5, 6, 2, 4, 4), (43, 5, 7, 2, 2, 2), (43, 6, 0, 2, 2, 2), (43, 6, 1, 2, 2, 2), (43, 6, 2, 2, 2, 2), (43, 6, 3, 2, 2, 2), (43, 6, 4, 2, 2, 2), (43, 6, 5, 2, 2, 2), (43, 6, 6, 2, 4, 4), (43, 6, 7, 2, 2, 2), (43, 7, 0, 2, 2, 2), (43, 7, 1, 2, 2, 2), (43, 7, 2, 2, 2, 2), (43, 7, 3, 2, 2, 2), (43, 7, 4, 2, 2, 2), (43, 7, 5, 2, 2, 2), (43, 7, 6, 2, 4, 4), (43, 7, 7, 2, 2, 2), (44, 0, 0, 2, 2, 2), (44, 0, 1, 2, 2, 2), (44, 0, 2, 2, 2, 2), (44, 0, 3, 2, 2, 2), (44, 0, 4, 2, 2, 2), (44, 0, 5, 2, 2, 2), (44, 0, 6, 2, 3, 3), (44, 0, 7, 2, 2, 2), (44, 1, 0, 2, 2, 2), (44, 1, 1, 2, 2, 2), (44, 1, 2, 2, 2, 2), (44, 1, 3, 2, 2, 2), (44, 1, 4, 2, 2, 2), (44, 1, 5, 2, 2, 2), (44, 1, 6, 2, 3, 3), (44, 1, 7, 2, 2, 2), (44, 2, 0, 2, 2, 2), (44, 2, 1, 2, 2, 2), (44, 2, 2, 2, 2, 2), (44, 2, 3, 2, 2, 2), (44, 2, 4, 2, 2, 2), (44, 2, 5, 2, 2, 2), (44, 2, 6, 2, 3, 3), (44, 2, 7, 2, 2, 2), (44, 3, 0, 2, 2, 2), (44, 3, 1, 2, 2, 2), (44, 3, 2, 2, 2, 2), (44, 3, 3, 2, 2, 2), (44, 3, 4, 2, 2, 2), (44, 3, 5, 2, 2, 2), (44, 3, 6, 2, 3, 3), (44, 3, 7, 2, 2, 2), (44, 4, 0, 2, 2, 2), (44, 4, 1, 2, 2, 2), (44, 4, 2, 2, 2, 2), (44, 4, 3, 2, 2, 2), (44, 4, 4, 2, 2, 2), (44, 4, 5, 2, 2, 2), (44, 4, 6, 2, 3, 3), (44, 4, 7, 2, 2, 2), (44, 5, 0, 2, 2, 2), (44, 5, 1, 2, 2, 2), (44, 5, 2, 2, 2, 2), (44, 5, 3, 2, 2, 2), (44, 5, 4, 2, 2, 2), (44, 5, 5, 2, 2, 2), (44, 5, 6, 2, 3, 3), (44, 5, 7, 2, 2, 2), (44, 6, 0, 2, 2, 2), (44, 6, 1, 2, 2, 2), (44, 6, 2, 2, 2, 2), (44, 6, 3, 2, 2, 2), (44, 6, 4, 2, 2, 2), (44, 6, 5, 2, 2, 2), (44, 6, 6, 2, 3, 3), (44, 6, 7, 2, 2, 2), (44, 7, 0, 2, 2, 2), (44, 7, 1, 2, 2, 2), (44, 7, 2, 2, 2, 2), (44, 7, 3, 2, 2, 2), (44, 7, 4, 2, 2, 2), (44, 7, 5, 2, 2, 2), (44, 7, 6, 2, 3, 3), (44, 7, 7, 2, 2, 2), (45, 0, 0, 2, 2, 2), (45, 0, 1, 2, 2, 2), (45, 0, 2, 2, 2, 2), (45, 0, 3, 2, 2, 2), (45, 0, 4, 2, 2, 2), (45, 0, 5, 2, 2, 2), (45, 0, 6, 2, 4, 4), (45, 0, 7, 2, 2, 2), (45, 1, 0, 2, 2, 2), (45, 1, 1, 2, 2, 2), (45, 1, 2, 2, 2, 2), (45, 1, 3, 2, 2, 2), (45, 1, 4, 2, 2, 2), (45, 1, 5, 2, 2, 2), (45, 1, 6, 2, 4, 4), (45, 1, 7, 2, 2, 2), (45, 2, 0, 2, 2, 2), (45, 2, 1, 2, 2, 2), (45, 2, 2, 2, 2, 2), (45, 2, 3, 2, 2, 2), (45, 2, 4, 2, 2, 2), (45, 2, 5, 2, 2, 2), (45, 2, 6, 2, 4, 4), (45, 2, 7, 2, 2, 2), (45, 3, 0, 2, 2, 2), (45, 3, 1, 2, 2, 2), (45, 3, 2, 2, 2, 2), (45, 3, 3, 2, 2, 2), (45, 3, 4, 2, 2, 2), (45, 3, 5, 2, 2, 2), (45, 3, 6, 2, 4, 4), (45, 3, 7, 2, 2, 2), (45, 4, 0, 2, 2, 2), (45, 4, 1, 2, 2, 2), (45, 4, 2, 2, 2, 2), (45, 4, 3, 2, 2, 2), (45, 4, 4, 2, 2, 2), (45, 4, 5, 2, 2, 2), (45, 4, 6, 2, 4, 4), (45, 4, 7, 2, 2, 2), (45, 5, 0, 2, 2, 2), (45, 5, 1, 2, 2, 2), (45, 5, 2, 2, 2, 2), (45, 5, 3, 2, 2, 2), (45, 5, 4, 2, 2, 2), (45, 5, 5, 2, 2, 2), (45, 5, 6, 2, 4, 4), (45, 5, 7, 2, 2, 2), (45, 6, 0, 2, 2, 2), (45, 6, 1, 2, 2, 2), (45, 6, 2, 2, 2, 2), (45, 6, 3, 2, 2, 2), (45, 6, 4, 2, 2, 2), (45, 6, 5, 2, 2, 2), (45, 6, 6, 2, 4, 4), (45, 6, 7, 2, 2, 2), (45, 7, 0, 2, 2, 2), (45, 7, 1, 2, 2, 2), (45, 7, 2, 2, 2, 2), (45, 7, 3, 2, 2, 2), (45, 7, 4, 2, 2, 2), (45, 7, 5, 2, 2, 2), (45, 7, 6, 2, 4, 4), (45, 7, 7, 2, 2, 2), (46, 0, 0, 2, 2, 2), (46, 0, 1, 2, 2, 2), (46, 0, 2, 2, 2, 2), (46, 0, 3, 2, 2, 2), (46, 0, 4, 2, 2, 2), (46, 0, 5, 2, 2, 2), (46, 0, 6, 2, 4, 4), (46, 0, 7, 2, 2, 2), (46, 1, 0, 2, 2, 2), (46, 1, 1, 2, 2, 2), (46, 1, 2, 2, 2, 2), (46, 1, 3, 2, 2, 2), (46, 1, 4, 2, 2, 2), (46, 1, 5, 2, 2, 2), (46, 1, 6, 2, 4, 4), (46, 1, 7, 2, 2, 2), (46, 2, 0, 2, 2, 2), (46, 2, 1, 2, 2, 2), (46, 2, 2, 2, 2, 2), (46, 2, 3, 2, 2, 2), (46, 2, 4, 2, 2, 2), (46, 2, 5, 2, 2, 2), (46, 2, 6, 2, 4, 4), (46, 2, 7, 2, 2, 2), (46, 3, 0, 2, 2, 2), (46, 3, 1, 2, 2, 2), (46, 3, 2, 2, 2, 2), (46, 3, 3, 2, 2, 2), (46, 3, 4, 2, 2, 2), (46, 3, 5, 2, 2, 2), (46, 3, 6, 2, 4, 4), (46, 3, 7, 2, 2, 2), (46, 4, 0, 2, 2, 2), (46, 4, 1, 2, 2, 2), (46, 4, 2, 2, 2, 2), (46, 4, 3, 2, 2, 2), (46, 4, 4, 2, 2, 2), (46, 4, 5, 2, 2, 2), (46, 4, 6, 2, 4, 4), (46, 4, 7, 2, 2, 2), (46, 5, 0, 2, 2, 2), (46, 5, 1, 2, 2, 2), (46, 5, 2, 2, 2, 2), (46, 5, 3, 2, 2, 2), (46, 5, 4, 2, 2, 2), (46, 5, 5, 2, 2, 2), (46, 5, 6, 2, 4, 4), (46, 5, 7, 2, 2, 2), (46, 6, 0, 2, 2, 2), (46, 6, 1, 2, 2, 2), (46, 6, 2, 2, 2, 2), (46, 6, 3, 2, 2, 2), (46, 6, 4, 2, 2, 2), (46, 6, 5, 2, 2, 2), (46, 6, 6, 2, 4, 4), (46, 6, 7, 2, 2, 2), (46, 7, 0, 2, 2, 2), (46, 7, 1, 2, 2, 2), (46, 7, 2, 2, 2, 2), (46, 7, 3, 2, 2, 2), (46, 7, 4, 2, 2, 2), (46, 7, 5, 2, 2, 2), (46, 7, 6, 2, 4, 4), (46, 7, 7, 2, 2, 2)]
def decS (op : Int) : F6 := decTab.getD op.toNat (0, 0, 0, 0, 0, 0)
def cbS (op : Int) : F6 := cbTab.getD op.toNat (0, 0, 0, 0, 0, 0)
def formS (op : Int) (cb : Bool) : F6 := if cb = true then cbS op else decS op
def chk6 (o : Option (F6 × Unit)) (p : F6) : Bool := match o with
 | some x => x.1.1 == p.1 && x.1.2.1 == p.2.1 && x.1.2.2.1 == p.2.2.1 && x.1.2.2.2.1 == p.2.2.2.1 && x.1.2.2.2.2.1 == p.2.2.2.2.1 && x.1.2.2.2.2.2 == p.2.2.2.2.2
 | none => false
theorem chk6_eq {o : Option (F6 × Unit)} {p : F6} (h : chk6 o p = true) : o = some (p, ()) := by
 cases o with
 | none => simp [chk6] at h
 | some x =>
  obtain ⟨⟨a, b, c, d, e, f⟩, u⟩ := x
  obtain ⟨a', b', c', d', e', f'⟩ := p
  simp only [chk6, Bool.and_eq_true, beq_iff_eq] at h
  obtain ⟨⟨⟨⟨⟨rfl, rfl⟩, rfl⟩, rfl⟩, rfl⟩, rfl⟩ := h
  rfl
/-! the document's rows, reckoned -/
def bitC (x : Int × Int × Unit) : Option (Bool × Unit) := if 0 ≤ x.1 ∧ x.1 ≤ 255 ∧ 0 ≤ x.2.1 ∧ x.2.1 < 8 then some (bitB x.1 x.2.1.toNat, ()) else none
theorem power_spec (n : Nat) (hn : n < 8) : ref01_power.F ((n : Int), ()) = some (2 ^ n, ()) := by
 unfold ref01_power.F ref01_power.C ref01_power.G
 have h : ref01_power.L0.F (((n : Int), 1, (0 : Int), ()), (), ()) = some ((2 ^ n, ()), (), ()) := by
  unfold ref01_power.L0.F
  refine (congrArg (iterU _) ?_).trans (iterU_range (fun i : Nat => (((n : Int), 2 ^ i, (i : Int), ()), (), ())) _ n ?_ ?_ 0 (by omega))
  ·rfl
  ·intro i hi
   unfold ref01_power.L0.step
   dsimp only
   have h' : (i : Int) < (n : Int) := by omega
   have hp : (2 : Int) ^ i ≤ 2 ^ 7 := by
    have : (2 : Nat) ^ i ≤ 2 ^ 7 := Nat.pow_le_pow_right (by omega) (by omega)
    exact_mod_cast this
   have hp0 : (0 : Int) < 2 ^ i := Int.pow_pos (by omega)
   rw [if_pos (decide_eq_true h'), w64 (n := (i : Int) + 1) (by omega), w64 (n := 2 ^ i * 2) (by omega), Int.pow_succ]
   rfl
  ·unfold ref01_power.L0.step
   simp
 rw [h]; rfl
theorem rbit_spec {v : Int} (n : Nat) (hn : n < 8) (h0 : 0 ≤ v) (h1 : v ≤ 255) : ref01_Bit.F (v, (n : Int), ()) = some (bitB v n, ()) := by
 unfold ref01_Bit.F ref01_Bit.C ref01_Bit.G
 have g1 : ¬ (n : Int) < 0 := by omega
 have g2 : ¬ (n : Int) > 7 := by omega
 have hp0 : (0 : Int) < 2 ^ n := Int.pow_pos (by omega)
 have g3 : ¬ ((2 : Int) ^ n = 0) := by omega
 have q0 : 0 ≤ v / 2 ^ n := Int.ediv_nonneg h0 (by omega)
 have q1 : v / 2 ^ n ≤ v := Int.ediv_le_self _ h0
 simp only [g1, g2, decide_false, beq_self_eq_true, if_true, Bool.false_eq_true, if_false, power_spec n hn, Option.bind_some, g3, Bool.not_false]
 rw [w64 (n := v) (by omega), tdivN h0, w64 (by omega), tmodN q0]
 rfl
theorem bitC_ok (x : Int × Int × Unit) (y : Bool × Unit) (h : bitC x = some y) : ref01_Bit.F x = some y := by
 unfold bitC at h
 split at h
 ·rename_i hc
  obtain ⟨v, n, u⟩ := x
  have hr := rbit_spec (v := v) n.toNat (by simp only at hc; omega) hc.1 hc.2.1
  rw [Int.toNat_of_nonneg hc.2.2.1] at hr
  rw [← h]; exact hr
 ·simp at h
theorem iterN_mono2 {α β : Type} {s1 s2 : α → Option (α ⊕ β)} (h : ∀ a b, s1 a = some b → s2 a = some b) : ∀ (n : Nat) (a : α) (b : β), iterN s1 n a = some b → iterN s2 n a = some b
 | 0, _, _, e => by simp [iterN] at e
 | n + 1, a, b, e => by
  simp only [iterN] at e ⊢
  split at e
  ·rename_i a' e1; rw [h _ _ e1]; exact iterN_mono2 h n a' b e
  ·rename_i b' e1; rw [h _ _ e1]; exact e
  ·simp at e
theorem bind_mono {α β : Type} {x y : Option α} (h : ∀ a, x = some a → y = some a) {f g : α → Option β} (hf : ∀ a b, f a = some b → g a = some b) {b : β} (e : x.bind f = some b) : y.bind g = some b := by
 obtain ⟨a, ha, hb⟩ := Option.bind_eq_some_iff.1 e
 rw [h a ha]; exact hf a b hb
theorem ite_mono {α : Type} {c : Prop} [Decidable c] {x y u v : Option α} (h1 : ∀ b, x = some b → u = some b) (h2 : ∀ b, y = some b → v = some b) {b : α} (e : (if c then x else y) = some b) : (if c then u else v) = some b := by
 split
 ·rename_i hc; rw [if_pos hc] at e; exact h1 b e
 ·rename_i hc; rw [if_neg hc] at e; exact h2 b e
def fitsC (x : ByteArray × Int × Unit) : Option (Bool × Int × Int × Unit) := ref05_Fits.G (fun z => iterN (fun x => ref05_Fits.L0.step bitC x.1.1 x.1.2.1 x.1.2.2.1 x.1.2.2.2.1 x.1.2.2.2.2.1) 10 z) x.1 x.2.1
theorem fits_step (a : (ByteArray × Int × Int × Int × Int × Unit) × Unit × Unit) (b : ((ByteArray × Int × Int × Int × Int × Unit) × Unit × Unit) ⊕ (((Bool × Int × Int × Unit) × Unit × Unit) ⊕ ((Int × Int × Unit) × Unit × Unit))) (h : ref05_Fits.L0.step bitC a.1.1 a.1.2.1 a.1.2.2.1 a.1.2.2.2.1 a.1.2.2.2.2.1 = some b) : ref05_Fits.L0.step ref01_Bit.F a.1.1 a.1.2.1 a.1.2.2.1 a.1.2.2.2.1 a.1.2.2.2.2.1 = some b := by
 unfold ref05_Fits.L0.step at h ⊢
 exact ite_mono (fun b hb => bind_mono (bitC_ok _) (fun _ _ e => e) hb) (fun _ e => e) h
theorem fitsC_ok (x : ByteArray × Int × Unit) (y : Bool × Int × Int × Unit) (h : fitsC x = some y) : ref05_Fits.F x = some y := by
 unfold fitsC at h
 unfold ref05_Fits.F ref05_Fits.C
 unfold ref05_Fits.G at h ⊢
 exact bind_mono (fun a ha => iterU_of (iterN_mono2 fits_step 10 _ a ha)) (fun _ _ e => e) h
abbrev stR (F : ByteArray × Int × Unit → Option (Bool × Int × Int × Unit)) (x : ((Int × Unit × (List (ByteArray × Int × Int × Int × Int × Int)) × Int × Unit) × ((Int × Int × Int × Int × Int × Int × Unit) × Unit) × Unit)) := ref05_Decode.L0.step F ref05_told.F x.1.1 x.1.2.2.1 x.1.2.2.2.1 x.2.1.1.1 x.2.1.1.2.1 x.2.1.1.2.2.1 x.2.1.1.2.2.2.1 x.2.1.1.2.2.2.2.1 x.2.1.1.2.2.2.2.2.1
def decC (op : Int) : Option (F6 × Unit) := ref05_Decode.G (fun _ => ref05_Rows.G) (fun z => iterN (stR fitsC) 48 z) op
theorem dec_step (a b) (h : stR fitsC a = some b) : stR ref05_Fits.F a = some b := by
 unfold stR ref05_Decode.L0.step at h ⊢
 exact ite_mono (fun b hb => ite_mono (fun b hb => bind_mono (fitsC_ok _) (fun _ _ e => e) hb) (fun _ e => e) hb) (fun _ e => e) h
theorem decC_ok (op : Int) (y : F6 × Unit) (h : decC op = some y) : T.ref05_Decode.F (op, ()) = some y := by
 unfold decC at h
 unfold ref05_Decode.F ref05_Decode.C
 unfold ref05_Decode.G at h ⊢
 exact bind_mono (fun _ e => e) (fun a b hb => bind_mono (fun c hc => iterU_of (iterN_mono2 dec_step 48 _ c hc)) (fun _ _ e => e) hb) h
def cbC (op : Int) : Option (F6 × Unit) := ref05_DecodeCB.G fitsC op
theorem cbC_ok (op : Int) (y : F6 × Unit) (h : cbC op = some y) : T.ref05_DecodeCB.F (op, ()) = some y := by
 unfold cbC at h
 unfold ref05_DecodeCB.F ref05_DecodeCB.C
 unfold ref05_DecodeCB.G at h ⊢
 exact bind_mono (fitsC_ok _) (fun _ _ e => e) h
noncomputable def tblD : FuncId → Option Func
 | 30 => some Tryd.f30
 | 31 => some Tryd.f31
 | 55 => some Tryd.f55
 | 54 => some Tryd.f54
 | 53 => some Tryd.f53
 | 56 => some Tryd.f56
 | 73 => some Tryd.f73
 | 74 => some Tryd.f74
 | 75 => some Tryd.f75
 | _ => none
theorem tblD_ok : TblOK Tryd.prog tblD := by
 intro g fn h
 unfold tblD at h
 split at h
 ·simp only [Option.some.injEq] at h; subst h; exact ⟨Tryd.func30, by kernel_rfl⟩
 ·simp only [Option.some.injEq] at h; subst h; exact ⟨Tryd.func31, by kernel_rfl⟩
 ·simp only [Option.some.injEq] at h; subst h; exact ⟨Tryd.func55, by kernel_rfl⟩
 ·simp only [Option.some.injEq] at h; subst h; exact ⟨Tryd.func54, by kernel_rfl⟩
 ·simp only [Option.some.injEq] at h; subst h; exact ⟨Tryd.func53, by kernel_rfl⟩
 ·simp only [Option.some.injEq] at h; subst h; exact ⟨Tryd.func56, by kernel_rfl⟩
 ·simp only [Option.some.injEq] at h; subst h; exact ⟨Tryd.func73, by kernel_rfl⟩
 ·simp only [Option.some.injEq] at h; subst h; exact ⟨Tryd.func74, by kernel_rfl⟩
 ·simp only [Option.some.injEq] at h; subst h; exact ⟨Tryd.func75, by kernel_rfl⟩
 ·simp at h

noncomputable def evD (g : FuncId) (n : Nat) : Option (F6 × Unit) := fnF Tryd.prog tblD [] (losL (P := Tryd.prog) []) 60 10 g [.k (.i .u8)] [.agg ⟨.i .i64, [.i .i64, .i .i64, .i .i64, .i .i64, .i .i64]⟩] ((n : Int), ())
theorem opcode_Decode_c0 : (List.range' 0 32).all (fun n => chk6 (evD 30 n) (decS (n : Int))) = true := by kernel_rfl
theorem opcode_Decode_c1 : (List.range' 32 32).all (fun n => chk6 (evD 30 n) (decS (n : Int))) = true := by kernel_rfl
theorem opcode_Decode_c2 : (List.range' 64 32).all (fun n => chk6 (evD 30 n) (decS (n : Int))) = true := by kernel_rfl
theorem opcode_Decode_c3 : (List.range' 96 32).all (fun n => chk6 (evD 30 n) (decS (n : Int))) = true := by kernel_rfl
theorem opcode_Decode_c4 : (List.range' 128 32).all (fun n => chk6 (evD 30 n) (decS (n : Int))) = true := by kernel_rfl
theorem opcode_Decode_c5 : (List.range' 160 32).all (fun n => chk6 (evD 30 n) (decS (n : Int))) = true := by kernel_rfl
theorem opcode_Decode_c6 : (List.range' 192 32).all (fun n => chk6 (evD 30 n) (decS (n : Int))) = true := by kernel_rfl
theorem opcode_Decode_c7 : (List.range' 224 32).all (fun n => chk6 (evD 30 n) (decS (n : Int))) = true := by kernel_rfl
theorem opcode_DecodeCB_c0 : (List.range' 0 64).all (fun n => chk6 (evD 31 n) (cbS (n : Int))) = true := by kernel_rfl
theorem opcode_DecodeCB_c1 : (List.range' 64 64).all (fun n => chk6 (evD 31 n) (cbS (n : Int))) = true := by kernel_rfl
theorem opcode_DecodeCB_c2 : (List.range' 128 64).all (fun n => chk6 (evD 31 n) (cbS (n : Int))) = true := by kernel_rfl
theorem opcode_DecodeCB_c3 : (List.range' 192 64).all (fun n => chk6 (evD 31 n) (cbS (n : Int))) = true := by kernel_rfl

noncomputable def tabF (S : Int → F6) : Int × Unit → Option (F6 × Unit) := fun x => if 0 ≤ x.1 ∧ x.1 ≤ 255 then some (S x.1, ()) else none
theorem tab_ok {g : FuncId} {S : Int → F6} (h : ∀ n, n < 256 → chk6 (evD g n) (S (n : Int)) = true) : PureOK Tryd.prog g [.k (.i .u8)] [.agg ⟨.i .i64, [.i .i64, .i .i64, .i .i64, .i .i64, .i .i64]⟩] (tabF S) := by
 intro x y hx
 unfold tabF at hx
 split at hx
 ·rename_i hc
  obtain ⟨v, u⟩ := x
  have h1 := chk6_eq (h v.toNat (by simp only at hc; omega))
  rw [Int.toNat_of_nonneg hc.1] at h1
  rw [hx] at h1
  unfold evD at h1
  rw [Int.toNat_of_nonneg hc.1] at h1
  have key : PureOK Tryd.prog g [.k (.i .u8)] [.agg ⟨.i .i64, [.i .i64, .i .i64, .i .i64, .i .i64, .i .i64]⟩] (fnF Tryd.prog tblD [] (losL (P := Tryd.prog) []) 60 10 g [.k (.i .u8)] [.agg ⟨.i .i64, [.i .i64, .i .i64, .i .i64, .i .i64, .i .i64]⟩]) := fnF_ok tblD_ok (fun R => losL_ok []) rfl rfl
  exact key (v, ()) y h1
 ·simp at hx
@[reducible] def opcode_Decode.as : List Shp := [.k (.i .u8)]
@[reducible] def opcode_Decode.rs : List Shp := [.agg ⟨.i .i64, [.i .i64, .i .i64, .i .i64, .i .i64, .i .i64]⟩]
noncomputable def opcode_Decode.F : Int × Unit → Option (F6 × Unit) := tabF decS
theorem opcode_Decode.ok : PureOK Tryd.prog 30 opcode_Decode.as opcode_Decode.rs opcode_Decode.F := tab_ok fun n hn => by
 have key : ∀ a, a ≤ n → n < a + 32 → (List.range' a 32).all (fun n => chk6 (evD 30 n) (decS (n : Int))) = true → chk6 (evD 30 n) (decS (n : Int)) = true := fun a h1 h2 h => List.all_eq_true.1 h n (List.mem_range'_1.2 ⟨h1, h2⟩)
 by_cases h0 : n < 32
 ·exact key 0 (by omega) (by omega) opcode_Decode_c0
 by_cases h1 : n < 64
 ·exact key 32 (by omega) (by omega) opcode_Decode_c1
 by_cases h2 : n < 96
 ·exact key 64 (by omega) (by omega) opcode_Decode_c2
 by_cases h3 : n < 128
 ·exact key 96 (by omega) (by omega) opcode_Decode_c3
 by_cases h4 : n < 160
 ·exact key 128 (by omega) (by omega) opcode_Decode_c4
 by_cases h5 : n < 192
 ·exact key 160 (by omega) (by omega) opcode_Decode_c5
 by_cases h6 : n < 224
 ·exact key 192 (by omega) (by omega) opcode_Decode_c6
 exact key 224 (by omega) (by omega) opcode_Decode_c7
@[reducible] def opcode_DecodeCB.as : List Shp := [.k (.i .u8)]
@[reducible] def opcode_DecodeCB.rs : List Shp := [.agg ⟨.i .i64, [.i .i64, .i .i64, .i .i64, .i .i64, .i .i64]⟩]
noncomputable def opcode_DecodeCB.F : Int × Unit → Option (F6 × Unit) := tabF cbS
theorem opcode_DecodeCB.ok : PureOK Tryd.prog 31 opcode_DecodeCB.as opcode_DecodeCB.rs opcode_DecodeCB.F := tab_ok fun n hn => by
 have key : ∀ a, a ≤ n → n < a + 64 → (List.range' a 64).all (fun n => chk6 (evD 31 n) (cbS (n : Int))) = true → chk6 (evD 31 n) (cbS (n : Int)) = true := fun a h1 h2 h => List.all_eq_true.1 h n (List.mem_range'_1.2 ⟨h1, h2⟩)
 by_cases h0 : n < 64
 ·exact key 0 (by omega) (by omega) opcode_DecodeCB_c0
 by_cases h1 : n < 128
 ·exact key 64 (by omega) (by omega) opcode_DecodeCB_c1
 by_cases h2 : n < 192
 ·exact key 128 (by omega) (by omega) opcode_DecodeCB_c2
 exact key 192 (by omega) (by omega) opcode_DecodeCB_c3
theorem rdec_c0 : (List.range' 0 32).all (fun n => chk6 (decC (n : Int)) (decS (n : Int))) = true := by decide +kernel
theorem rdec_c1 : (List.range' 32 32).all (fun n => chk6 (decC (n : Int)) (decS (n : Int))) = true := by decide +kernel
theorem rdec_c2 : (List.range' 64 32).all (fun n => chk6 (decC (n : Int)) (decS (n : Int))) = true := by decide +kernel
theorem rdec_c3 : (List.range' 96 32).all (fun n => chk6 (decC (n : Int)) (decS (n : Int))) = true := by decide +kernel
theorem rdec_c4 : (List.range' 128 32).all (fun n => chk6 (decC (n : Int)) (decS (n : Int))) = true := by decide +kernel
theorem rdec_c5 : (List.range' 160 32).all (fun n => chk6 (decC (n : Int)) (decS (n : Int))) = true := by decide +kernel
theorem rdec_c6 : (List.range' 192 32).all (fun n => chk6 (decC (n : Int)) (decS (n : Int))) = true := by decide +kernel
theorem rdec_c7 : (List.range' 224 32).all (fun n => chk6 (decC (n : Int)) (decS (n : Int))) = true := by decide +kernel
theorem rdec_spec {op : Int} (h0 : 0 ≤ op) (h1 : op ≤ 255) : T.ref05_Decode.F (op, ()) = some (decS op, ()) := by
 obtain ⟨n, rfl, hn⟩ : ∃ n : Nat, op = (n : Int) ∧ n < 256 := ⟨op.toNat, by omega, by omega⟩
 have key : ∀ a, a ≤ n → n < a + 32 → (List.range' a 32).all (fun n => chk6 (decC (n : Int)) (decS (n : Int))) = true → T.ref05_Decode.F ((n : Int), ()) = some (decS (n : Int), ()) := fun a h1 h2 h => decC_ok _ _ (chk6_eq (List.all_eq_true.1 h n (List.mem_range'_1.2 ⟨h1, h2⟩)))
 by_cases h10 : n < 32
 ·exact key 0 (by omega) (by omega) rdec_c0
 by_cases h11 : n < 64
 ·exact key 32 (by omega) (by omega) rdec_c1
 by_cases h12 : n < 96
 ·exact key 64 (by omega) (by omega) rdec_c2
 by_cases h13 : n < 128
 ·exact key 96 (by omega) (by omega) rdec_c3
 by_cases h14 : n < 160
 ·exact key 128 (by omega) (by omega) rdec_c4
 by_cases h15 : n < 192
 ·exact key 160 (by omega) (by omega) rdec_c5
 by_cases h16 : n < 224
 ·exact key 192 (by omega) (by omega) rdec_c6
 exact key 224 (by omega) (by omega) rdec_c7
theorem rcb_c0 : (List.range' 0 128).all (fun n => chk6 (cbC (n : Int)) (cbS (n : Int))) = true := by decide +kernel
theorem rcb_c1 : (List.range' 128 128).all (fun n => chk6 (cbC (n : Int)) (cbS (n : Int))) = true := by decide +kernel
theorem rcb_spec {op : Int} (h0 : 0 ≤ op) (h1 : op ≤ 255) : T.ref05_DecodeCB.F (op, ()) = some (cbS op, ()) := by
 obtain ⟨n, rfl, hn⟩ : ∃ n : Nat, op = (n : Int) ∧ n < 256 := ⟨op.toNat, by omega, by omega⟩
 have key : ∀ a, a ≤ n → n < a + 128 → (List.range' a 128).all (fun n => chk6 (cbC (n : Int)) (cbS (n : Int))) = true → T.ref05_DecodeCB.F ((n : Int), ()) = some (cbS (n : Int), ()) := fun a h1 h2 h => cbC_ok _ _ (chk6_eq (List.all_eq_true.1 h n (List.mem_range'_1.2 ⟨h1, h2⟩)))
 by_cases h10 : n < 128
 ·exact key 0 (by omega) (by omega) rcb_c0
 exact key 128 (by omega) (by omega) rcb_c1


end Go.Proofs.YtkdeheoonannoaaDoor.T
