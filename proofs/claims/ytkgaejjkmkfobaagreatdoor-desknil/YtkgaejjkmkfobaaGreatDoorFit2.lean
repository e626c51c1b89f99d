/- The regions that draw their order, of a part of the functions in use, are fit. -/
import Derived.Test.YtkgaejjkmkfobaaGreatDoorProg
import Derived.Test.YtkgaejjkmkfobaaGreatDoorEvC
namespace Go.Ev
open Go.Proofs
noncomputable def used2 : List FuncId := [11, 17, 23, 39, 49, 61, 65, 72, 87, 93, 101, 105, 109, 122, 129, 135, 140, 146, 151, 167, 171, 178, 185, 195, 217, 221, 225, 230, 243, 278, 282, 288, 293, 308, 350, 355, 360, 404]
theorem fit2 : fitAll Tryz.prog used2 = true := by decide +kernel
end Go.Ev
