/- The regions that draw their order, of a part of the functions in use, are fit. -/
import Derived.Test.YtgamdeboonigeaaGreatDoorProg
import Derived.Test.YtgamdeboonigeaaGreatDoorEvC
namespace Go.Ev
open Go.Proofs
noncomputable def used3 : List FuncId := [9, 13, 17, 21, 25, 29, 37, 41, 45, 49, 53, 63, 69, 73, 77, 83, 90, 98, 102, 106, 110, 115, 119, 125, 130, 134, 140, 152, 156, 160, 165, 170, 174, 178, 183, 188, 194, 201, 205, 215, 219, 225, 232, 239, 245, 250, 254, 263, 270, 281, 286, 292, 301, 307, 313, 318, 324, 329, 342, 348, 359, 375, 383, 387, 391, 399, 405, 425, 429, 440, 451, 476, 529, 533]
theorem fit3 : fitAll Tryz.prog used3 = true := by decide +kernel
end Go.Ev
