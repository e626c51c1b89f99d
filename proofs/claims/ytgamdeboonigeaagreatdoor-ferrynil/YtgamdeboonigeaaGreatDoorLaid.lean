/- The program's types are laid out as the form asks. -/
import Derived.Test.YtgamdeboonigeaaGreatDoorProg
import Derived.KernelRfl
import GoSem.ClaimDataLaid
namespace Go.Proofs.YtgamdeboonigeaaGreatDoor
theorem laidOut : laidOutB Tryz.prog = true := by kernel_rfl
end Go.Proofs.YtgamdeboonigeaaGreatDoor
