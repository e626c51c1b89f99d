/- The regions that draw their order, of a part of the functions in use, are fit. -/
import Derived.Test.YtkgaejjkmkfobaaGreatDoorProg
import Derived.Test.YtkgaejjkmkfobaaGreatDoorEvC
namespace Go.Ev
open Go.Proofs
noncomputable def used3 : List FuncId := [14, 18, 36, 42, 50, 62, 67, 73, 90, 94, 102, 106, 116, 123, 130, 137, 141, 147, 162, 168, 172, 179, 187, 196, 218, 222, 226, 236, 245, 279, 283, 289, 296, 311, 351, 357, 366, 405]
theorem fit3 : fitAll Tryz.prog used3 = true := by decide +kernel
end Go.Ev
