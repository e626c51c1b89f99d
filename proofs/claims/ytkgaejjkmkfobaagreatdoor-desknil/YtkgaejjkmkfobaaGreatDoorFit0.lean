/- The regions that draw their order, of a part of the functions in use, are fit. -/
import Derived.Test.YtkgaejjkmkfobaaGreatDoorProg
import Derived.Test.YtkgaejjkmkfobaaGreatDoorEvC
namespace Go.Ev
open Go.Proofs
noncomputable def used0 : List FuncId := [6, 15, 19, 37, 47, 51, 63, 70, 82, 91, 96, 103, 107, 117, 124, 133, 138, 142, 148, 163, 169, 176, 180, 189, 214, 219, 223, 227, 237, 249, 280, 284, 290, 297, 312, 352, 358, 367, 412]
theorem fit0 : fitAll Tryz.prog used0 = true := by decide +kernel
end Go.Ev
