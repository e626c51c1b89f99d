/- DeskNil: the row holds; its card, tied to the program's text. -/
import Derived.Test.YtkgaejjkmkfobaaGreatDoorDeskNilFacts
import Derived.Test.YtkgaejjkmkfobaaGreatDoorDeskRow
import Derived.Test.YtkgaejjkmkfobaaGreatDoorCards
import Derived.Test.YtkgaejjkmkfobaaGreatDoorTie
namespace Go.Proofs.YtkgaejjkmkfobaaGreatDoor.deskNil
set_option maxRecDepth 100000
theorem named : Tryz.pinned.checked.prog.funcNamed Rows.deskNilRow.func = some 4 := by kernel_rfl
theorem inst : Tryz.f4.isInstance Tryz.pinned.checked.prog Rows.deskNilRow.origin Rows.deskNilRow.targs := of_decide_eq_true (by kernel_rfl)
theorem wrap : Tryz.f4.isWrapper Tryz.pinned.checked.prog Rows.deskNilRow.wrapper Rows.deskNilRow.mainSum := by unfold Func.isWrapper; first | (rw [if_pos (by decide +kernel)]; kernel_rfl) | (rw [if_neg (by decide +kernel)]; exact ⟨rfl, rfl⟩)
theorem over : Rows.DeskNilSaid :=
  OpenClaim.holds_of_wide 4 Tryz.f4 rfl rfl rfl rfl rfl rfl rfl ⟨rfl, rfl, rfl, rfl, rfl⟩ rfl rfl rfl rfl rfl named Tryz.func4 closed inst wrap
    (fun os started H enc _ => lifted os started H enc)
theorem goes_no : false = Rows.deskNilRow.goesBy Tryz.pinned.checked.prog := by
  unfold OpenClaim.goesBy Program.goesAt Program.goesFrom
  have e : Tryz.pinned.checked.prog = Tryz.prog := rfl
  rw [e]
  cases h : Tryz.prog.funcNamed Rows.deskNilRow.func with
  | none => rfl
  | some f =>
    simp only [Option.any_some, goes_false noGo f, Bool.false_or]
    rfl
theorem plain (f : FuncId) (fn : Func) (hf : Tryz.pinned.checked.prog.funcNamed Rows.deskNilRow.func = some f) (hfn : Tryz.pinned.checked.prog.funcs[f]? = some fn) :
    true = Tryz.pinned.checked.prog.looks [] ∧ ∀ (j : Nat) t, fn.params[j]? = some t → Tryz.pinned.checked.prog.wantsStandIn t = false := by
  obtain rfl : f = 4 := Option.some.inj (named.symm.trans hf) |>.symm
  obtain rfl : fn = Tryz.f4 := (Option.some.inj (Tryz.func4.symm.trans hfn)).symm
  refine ⟨by kernel_rfl, fun j t ht => ?_⟩
  rw [Tryz.params4] at ht
  have hm : t ∈ [50, 24] := by simpa using Array.mem_of_getElem? ht
  have hall : ([50, 24].all fun u => !Tryz.prog.wantsStandIn u) = true := by kernel_rfl
  exact (show Tryz.prog.wantsStandIn t = false by simpa using List.all_eq_true.1 hall t hm)
theorem wfT : Rows.deskNilRow.wfByText (OpenSpec.ofChange Rows.deskNilSpec) = true := by kernel_rfl
end Go.Proofs.YtkgaejjkmkfobaaGreatDoor.deskNil
namespace Go.Proofs.YtkgaejjkmkfobaaGreatDoor
open deskNil
/-- The card of DeskNil. -/
theorem deskNil_card : Rows.DeskNilCardSaid :=
  Claim7.holds_tied_plain_at .later [] _ _ _ _ over (fun _ h => by cases h) wfT (fun _ h => by cases h) deskNil_row_tie rfl ⟨rfl, rfl⟩ mainIs rfl plain goes_no
end Go.Proofs.YtkgaejjkmkfobaaGreatDoor
