/- The regions that draw their order, of a part of the functions in use, are fit. -/
import Derived.Test.YtkgaejjkmkfobaaGreatDoorProg
import Derived.Test.YtkgaejjkmkfobaaGreatDoorEvC
namespace Go.Ev
open Go.Proofs
noncomputable def used0 : List FuncId := [13, 18, 23, 28, 36, 50, 59, 65, 73, 79, 85, 93, 100, 104, 111, 118, 124, 129, 137, 141, 147, 154, 160, 164, 168, 172, 179, 187, 193, 197, 206, 215, 219, 223, 227, 237, 245, 253, 267, 278, 282, 288, 293, 299, 310, 316, 323, 335, 352, 358, 367, 373, 378, 386, 398, 406, 431, 456, 540, 544]
theorem fit0 : fitAll Tryz.prog used0 = true := by decide +kernel
end Go.Ev
