/- FerryNil: the row holds; its card, tied to the program's text. -/
import Derived.Test.YtgamdeboonigeaaGreatDoorFerryNilFacts
import Derived.Test.YtgamdeboonigeaaGreatDoorFerryRow
import Derived.Test.YtgamdeboonigeaaGreatDoorCards
import Derived.Test.YtgamdeboonigeaaGreatDoorTie
namespace Go.Proofs.YtgamdeboonigeaaGreatDoor.ferryNil
set_option maxRecDepth 100000
theorem named : Tryz.pinned.checked.prog.funcNamed Rows.ferryNilRow.func = some 3 := by kernel_rfl
theorem inst : Tryz.f3.isInstance Tryz.pinned.checked.prog Rows.ferryNilRow.origin Rows.ferryNilRow.targs := of_decide_eq_true (by kernel_rfl)
theorem wrap : Tryz.f3.isWrapper Tryz.pinned.checked.prog Rows.ferryNilRow.wrapper Rows.ferryNilRow.mainSum := by unfold Func.isWrapper; first | (rw [if_pos (by decide +kernel)]; kernel_rfl) | (rw [if_neg (by decide +kernel)]; exact ⟨rfl, rfl⟩)
theorem over : Rows.FerryNilSaid :=
  OpenClaim.holds_of_wide 3 Tryz.f3 rfl rfl rfl rfl rfl rfl rfl ⟨rfl, rfl, rfl, rfl, rfl⟩ rfl rfl rfl rfl rfl named Tryz.func3 closed inst wrap
    (fun os started H enc _ => lifted os started H enc)
theorem goes_no : false = Rows.ferryNilRow.goesBy Tryz.pinned.checked.prog := by
  unfold OpenClaim.goesBy Program.goesAt Program.goesFrom
  have e : Tryz.pinned.checked.prog = Tryz.prog := rfl
  rw [e]
  cases h : Tryz.prog.funcNamed Rows.ferryNilRow.func with
  | none => rfl
  | some f =>
    simp only [Option.any_some, goes_false noGo f, Bool.false_or]
    rfl
theorem plain (f : FuncId) (fn : Func) (hf : Tryz.pinned.checked.prog.funcNamed Rows.ferryNilRow.func = some f) (hfn : Tryz.pinned.checked.prog.funcs[f]? = some fn) :
    true = Tryz.pinned.checked.prog.looks [] ∧ ∀ (j : Nat) t, fn.params[j]? = some t → Tryz.pinned.checked.prog.wantsStandIn t = false := by
  obtain rfl : f = 3 := Option.some.inj (named.symm.trans hf) |>.symm
  obtain rfl : fn = Tryz.f3 := (Option.some.inj (Tryz.func3.symm.trans hfn)).symm
  refine ⟨by kernel_rfl, fun j t ht => ?_⟩
  rw [Tryz.params3] at ht
  have hm : t ∈ [3, 3, 22] := by simpa using Array.mem_of_getElem? ht
  have hall : ([3, 3, 22].all fun u => !Tryz.prog.wantsStandIn u) = true := by kernel_rfl
  exact (show Tryz.prog.wantsStandIn t = false by simpa using List.all_eq_true.1 hall t hm)
theorem wfT : Rows.ferryNilRow.wfByText (OpenSpec.ofChange Rows.ferryNilSpec) = true := by kernel_rfl
end Go.Proofs.YtgamdeboonigeaaGreatDoor.ferryNil
namespace Go.Proofs.YtgamdeboonigeaaGreatDoor
open ferryNil
/-- The card of FerryNil. -/
theorem ferryNil_card : Rows.FerryNilCardSaid :=
  Claim7.holds_tied_plain_at .later [] _ _ _ _ over (fun _ h => by cases h) wfT (fun _ h => by cases h) ferryNil_row_tie rfl ⟨rfl, rfl⟩ mainIs rfl plain goes_no
end Go.Proofs.YtgamdeboonigeaaGreatDoor
