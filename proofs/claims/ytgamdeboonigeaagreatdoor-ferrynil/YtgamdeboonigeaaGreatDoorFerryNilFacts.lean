/- FerryNil: the closed facts that the form asks of the row. -/
import Derived.Test.YtgamdeboonigeaaGreatDoorOpen
import Derived.Test.YtgamdeboonigeaaGreatDoorLaid
namespace Go.Proofs.YtgamdeboonigeaaGreatDoor.ferryNil
set_option maxRecDepth 100000
set_option maxHeartbeats 8000000 in
theorem closed : joinedFacts Tryz.pinned.checked.prog 3 Tryz.f3 Rows.ferryNilSpec Rows.ferryNilRow = true := by
  unfold joinedFacts
  simp only [Bool.and_eq_true]
  and_intros
  rotate_left
  · exact laidOut
  all_goals (as_aux_lemma => kernel_rfl)
end Go.Proofs.YtgamdeboonigeaaGreatDoor.ferryNil
