/- The regions that draw their order, of a part of the functions in use, are fit. -/
import Derived.Test.YtgamdeboonigeaaGreatDoorProg
import Derived.Test.YtgamdeboonigeaaGreatDoorEvC
namespace Go.Ev
open Go.Proofs
noncomputable def used0 : List FuncId := [4, 10, 14, 18, 22, 26, 30, 38, 42, 46, 50, 54, 64, 70, 74, 78, 84, 93, 99, 103, 107, 111, 116, 120, 126, 131, 135, 141, 153, 157, 161, 167, 171, 175, 179, 184, 189, 195, 202, 211, 216, 222, 226, 233, 241, 246, 251, 256, 265, 271, 282, 288, 293, 303, 308, 315, 319, 325, 330, 343, 356, 361, 378, 384, 388, 393, 400, 410, 426, 432, 441, 454, 526, 530]
theorem fit0 : fitAll Tryz.prog used0 = true := by decide +kernel
end Go.Ev
