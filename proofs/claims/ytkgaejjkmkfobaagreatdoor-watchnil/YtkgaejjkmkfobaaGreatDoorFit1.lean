/- The regions that draw their order, of a part of the functions in use, are fit. -/
import Derived.Test.YtkgaejjkmkfobaaGreatDoorProg
import Derived.Test.YtkgaejjkmkfobaaGreatDoorEvC
namespace Go.Ev
open Go.Proofs
noncomputable def used1 : List FuncId := [15, 19, 24, 29, 37, 51, 62, 70, 74, 80, 86, 94, 101, 107, 113, 120, 125, 130, 138, 142, 149, 155, 161, 165, 169, 173, 180, 188, 194, 199, 209, 216, 220, 224, 229, 238, 246, 254, 268, 279, 283, 289, 296, 303, 311, 317, 324, 341, 354, 359, 369, 374, 379, 393, 399, 412, 437, 457, 541, 545]
theorem fit1 : fitAll Tryz.prog used1 = true := by decide +kernel
end Go.Ev
