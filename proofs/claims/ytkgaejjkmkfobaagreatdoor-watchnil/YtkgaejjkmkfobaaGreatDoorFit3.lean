/- The regions that draw their order, of a part of the functions in use, are fit. -/
import Derived.Test.YtkgaejjkmkfobaaGreatDoorProg
import Derived.Test.YtkgaejjkmkfobaaGreatDoorEvC
namespace Go.Ev
open Go.Proofs
noncomputable def used3 : List FuncId := [17, 21, 27, 35, 48, 58, 64, 72, 76, 82, 90, 97, 103, 109, 117, 123, 127, 135, 140, 146, 151, 158, 163, 167, 171, 178, 185, 192, 196, 203, 214, 218, 222, 226, 236, 244, 252, 266, 277, 281, 287, 291, 298, 308, 314, 322, 333, 351, 357, 366, 372, 377, 385, 396, 405, 422, 443, 539, 543]
theorem fit3 : fitAll Tryz.prog used3 = true := by decide +kernel
end Go.Ev
