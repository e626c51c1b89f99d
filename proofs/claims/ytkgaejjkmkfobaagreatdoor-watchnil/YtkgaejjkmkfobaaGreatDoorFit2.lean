/- The regions that draw their order, of a part of the functions in use, are fit. -/
import Derived.Test.YtkgaejjkmkfobaaGreatDoorProg
import Derived.Test.YtkgaejjkmkfobaaGreatDoorEvC
namespace Go.Ev
open Go.Proofs
noncomputable def used2 : List FuncId := [16, 20, 25, 33, 42, 55, 63, 71, 75, 81, 87, 96, 102, 108, 114, 122, 126, 133, 139, 145, 150, 157, 162, 166, 170, 177, 184, 189, 195, 202, 210, 217, 221, 225, 230, 243, 249, 260, 276, 280, 284, 290, 297, 304, 312, 318, 328, 350, 355, 360, 370, 375, 382, 394, 404, 420, 440, 464, 542, 546]
theorem fit2 : fitAll Tryz.prog used2 = true := by decide +kernel
end Go.Ev
