/- The regions that draw their order, of a part of the functions in use, are fit. -/
import Derived.Test.YtkgaejjkmkfobaaGreatDoorProg
import Derived.Test.YtkgaejjkmkfobaaGreatDoorEvC
namespace Go.Ev
open Go.Proofs
noncomputable def used1 : List FuncId := [9, 16, 21, 38, 48, 60, 64, 71, 86, 92, 100, 104, 108, 120, 127, 134, 139, 145, 150, 166, 170, 177, 184, 193, 215, 220, 224, 229, 238, 277, 281, 287, 291, 298, 316, 354, 359, 377, 443]
theorem fit1 : fitAll Tryz.prog used1 = true := by decide +kernel
end Go.Ev
