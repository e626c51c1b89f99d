/- DeskNil: the closed facts that the form asks of the row. -/
import Derived.Test.YtkgaejjkmkfobaaGreatDoorOpen
import Derived.Test.YtkgaejjkmkfobaaGreatDoorLaid
namespace Go.Proofs.YtkgaejjkmkfobaaGreatDoor.deskNil
set_option maxRecDepth 100000
set_option maxHeartbeats 8000000 in
theorem closed : joinedFacts Tryz.pinned.checked.prog 4 Tryz.f4 Rows.deskNilSpec Rows.deskNilRow = true := by
  unfold joinedFacts
  simp only [Bool.and_eq_true]
  and_intros
  rotate_left
  · exact laidOut
  all_goals (as_aux_lemma => kernel_rfl)
end Go.Proofs.YtkgaejjkmkfobaaGreatDoor.deskNil
