/- WatchNil: the row holds; its card, tied to the program's text. -/
import Derived.Test.YtkgaejjkmkfobaaGreatDoorWatchNilFacts
import Derived.Test.YtkgaejjkmkfobaaGreatDoorWatchRow
import Derived.Test.YtkgaejjkmkfobaaGreatDoorCards
import Derived.Test.YtkgaejjkmkfobaaGreatDoorTie
namespace Go.Proofs.YtkgaejjkmkfobaaGreatDoor.watchNil
set_option maxRecDepth 100000
theorem named : Tryz.pinned.checked.prog.funcNamed Rows.watchNilRow.func = some 5 := by kernel_rfl
theorem inst : Tryz.f5.isInstance Tryz.pinned.checked.prog Rows.watchNilRow.origin Rows.watchNilRow.targs := of_decide_eq_true (by kernel_rfl)
theorem wrap : Tryz.f5.isWrapper Tryz.pinned.checked.prog Rows.watchNilRow.wrapper Rows.watchNilRow.mainSum := by unfold Func.isWrapper; first | (rw [if_pos (by decide +kernel)]; kernel_rfl) | (rw [if_neg (by decide +kernel)]; exact ⟨rfl, rfl⟩)
theorem over : Rows.WatchNilSaid :=
  OpenClaim.holds_of_wide 5 Tryz.f5 rfl rfl rfl rfl rfl rfl rfl ⟨rfl, rfl, rfl, rfl, rfl⟩ rfl rfl rfl rfl rfl named Tryz.func5 closed inst wrap
    (fun os started H enc _ => lifted os started H enc)
theorem goes_no : false = Rows.watchNilRow.goesBy Tryz.pinned.checked.prog := by
  unfold OpenClaim.goesBy Program.goesAt Program.goesFrom
  have e : Tryz.pinned.checked.prog = Tryz.prog := rfl
  rw [e]
  cases h : Tryz.prog.funcNamed Rows.watchNilRow.func with
  | none => rfl
  | some f =>
    simp only [Option.any_some, goes_false noGo f, Bool.false_or]
    rfl
theorem plain (f : FuncId) (fn : Func) (hf : Tryz.pinned.checked.prog.funcNamed Rows.watchNilRow.func = some f) (hfn : Tryz.pinned.checked.prog.funcs[f]? = some fn) :
    true = Tryz.pinned.checked.prog.looks [] ∧ ∀ (j : Nat) t, fn.params[j]? = some t → Tryz.pinned.checked.prog.wantsStandIn t = false := by
  obtain rfl : f = 5 := Option.some.inj (named.symm.trans hf) |>.symm
  obtain rfl : fn = Tryz.f5 := (Option.some.inj (Tryz.func5.symm.trans hfn)).symm
  refine ⟨by kernel_rfl, fun j t ht => ?_⟩
  rw [Tryz.params5] at ht
  have hm : t ∈ [24, 3] := by simpa using Array.mem_of_getElem? ht
  have hall : ([24, 3].all fun u => !Tryz.prog.wantsStandIn u) = true := by kernel_rfl
  exact (show Tryz.prog.wantsStandIn t = false by simpa using List.all_eq_true.1 hall t hm)
theorem wfT : Rows.watchNilRow.wfByText (OpenSpec.ofChange Rows.watchNilSpec) = true := by kernel_rfl
end Go.Proofs.YtkgaejjkmkfobaaGreatDoor.watchNil
namespace Go.Proofs.YtkgaejjkmkfobaaGreatDoor
open watchNil
/-- The card of WatchNil. -/
theorem watchNil_card : Rows.WatchNilCardSaid :=
  Claim7.holds_tied_plain_at .later [] _ _ _ _ over (fun _ h => by cases h) wfT (fun _ h => by cases h) watchNil_row_tie rfl ⟨rfl, rfl⟩ mainIs rfl plain goes_no
end Go.Proofs.YtkgaejjkmkfobaaGreatDoor
