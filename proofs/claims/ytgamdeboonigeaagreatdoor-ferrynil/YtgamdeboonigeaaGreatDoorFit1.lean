/- The regions that draw their order, of a part of the functions in use, are fit. -/
import Derived.Test.YtgamdeboonigeaaGreatDoorProg
import Derived.Test.YtgamdeboonigeaaGreatDoorEvC
namespace Go.Ev
open Go.Proofs
noncomputable def used1 : List FuncId := [6, 11, 15, 19, 23, 27, 35, 39, 43, 47, 51, 55, 65, 71, 75, 79, 87, 94, 100, 104, 108, 112, 117, 121, 127, 132, 136, 142, 154, 158, 162, 168, 172, 176, 180, 185, 190, 199, 203, 213, 217, 223, 228, 234, 242, 248, 252, 260, 267, 272, 283, 289, 294, 304, 309, 316, 320, 327, 334, 344, 357, 363, 380, 385, 389, 394, 402, 411, 427, 433, 444, 458, 527, 531]
theorem fit1 : fitAll Tryz.prog used1 = true := by decide +kernel
end Go.Ev
