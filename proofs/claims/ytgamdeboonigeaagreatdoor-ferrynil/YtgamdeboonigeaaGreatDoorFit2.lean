/- The regions that draw their order, of a part of the functions in use, are fit. -/
import Derived.Test.YtgamdeboonigeaaGreatDoorProg
import Derived.Test.YtgamdeboonigeaaGreatDoorEvC
namespace Go.Ev
open Go.Proofs
noncomputable def used2 : List FuncId := [7, 12, 16, 20, 24, 28, 36, 40, 44, 48, 52, 60, 68, 72, 76, 81, 88, 95, 101, 105, 109, 113, 118, 124, 128, 133, 139, 148, 155, 159, 164, 169, 173, 177, 182, 187, 191, 200, 204, 214, 218, 224, 231, 238, 243, 249, 253, 262, 268, 280, 284, 291, 300, 306, 310, 317, 323, 328, 336, 345, 358, 368, 382, 386, 390, 395, 404, 413, 428, 437, 450, 468, 528, 532]
theorem fit2 : fitAll Tryz.prog used2 = true := by decide +kernel
end Go.Ev
