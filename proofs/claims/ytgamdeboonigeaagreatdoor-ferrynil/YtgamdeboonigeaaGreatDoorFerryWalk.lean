/- FerryNil answers true, of every pair of numbers and all entries that can be read. -/
import Derived.Test.YtgamdeboonigeaaGreatDoorMF
import Derived.Test.YtgamdeboonigeaaGreatDoorFerry3
namespace Go.Ev
open Go.Proofs Go.RowKit
set_option maxRecDepth 100000
set_option linter.unusedVariables false

theorem fit_nil {s at_ : Int} {r : Bool} {w : World} : Calls Tryz.prog 14 #[.pointer none, .int .i64 s, .int .i64 at_, .bool r] w fun e w' => e = .returned (.int .i64 2) ∧ w' = w := by
  go_enter Tryz.func14, Tryz.ntmps14
  go_wp2
  go_ret
  exact ⟨rfl, rfl⟩

theorem out_nil {s at_ n : Int} {w : World} : Calls Tryz.prog 6 #[.pointer none, .int .i64 s, .int .i64 at_, .int .i64 n] w fun e w' => e = .returned (.tuple #[.slice none 0 0, .int .i64 2]) ∧ w' = w := by
  go_enter Tryz.func6, Tryz.ntmps6
  go_wp2_with (first
    | (go_at_call 14; refine fit_nil.mono ?_; rintro e w1 ⟨rfl, hw1⟩; subst hw1))
  all_goals (go_ret2; exact ⟨rfl, rfl⟩)

theorem in_nil {B : Nat} {ad : Option Addr} {len cap : Nat} {s at_ : Int} {w : World} (h : Entries B w ad len) (hB : B ≤ w.heap.size) :
    Calls Tryz.prog 7 #[.pointer none, .int .i64 s, .int .i64 at_, .slice ad len cap] w fun e w' => e = .returned (.tuple #[.int .i64 0, .int .i64 2]) ∧ Below w.heap.size w w' := by
  go_enter Tryz.func7, Tryz.ntmps7
  go_wp2_with (first
    | (go_at_call 16; refine (diffRight_any h hB).mono ?_; rintro e w1 ⟨⟨x, rfl⟩, hw1⟩)
    | (go_at_call 14; refine fit_nil.mono ?_; rintro e w2 ⟨rfl, hw2⟩; subst hw2))
  all_goals (go_ret2; exact ⟨rfl, hw1⟩)

theorem copy_nil {s t at_ : Int} {w : World} : Calls Tryz.prog 8 #[.pointer none, .int .i64 s, .pointer none, .int .i64 t, .int .i64 at_] w fun e w' => e = .returned (.tuple #[.int .i64 0, .int .i64 2]) ∧ w' = w := by
  go_enter Tryz.func8, Tryz.ntmps8
  go_wp2_with (first
    | (go_at_call 6; refine out_nil.mono ?_; rintro e w1 ⟨rfl, hw1⟩; subst hw1))
  all_goals (go_ret2; exact ⟨rfl, rfl⟩)

theorem ready_nil {s : Int} {w : World} : Calls Tryz.prog 9 #[.pointer none, .int .i64 s] w fun e w' => e = .returned (.bool false) ∧ w' = w := by
  go_enter Tryz.func9, Tryz.ntmps9
  go_wp2
  go_ret
  exact ⟨rfl, rfl⟩

set_option maxHeartbeats 4000000 in
theorem ferryNil_any {s at_ : Int} {ad : Option Addr} {len cap : Nat} {w : World} (h : Entries w.heap.size w ad len) :
    Calls Tryz.prog 3 #[.int .i64 s, .int .i64 at_, .slice ad len cap] w fun e w' => e = .returned (.bool true) ∧ Below w.heap.size w w' := by
  go_enter Tryz.func3, Tryz.ntmps3
  go_wp2_with (first
    | (go_at_call 4; refine (F_true _).mono ?_; rintro e w1 ⟨rfl, b1⟩; have h1 := h.below b1 (Nat.le_refl _); have z1 := b1.size)
    | (go_at_call 5; refine (ferryFar_any h1).mono ?_; rintro e w2 ⟨⟨x, rfl⟩, hw2⟩; subst hw2; cases x)
    | (go_at_call 6; refine out_nil.mono ?_; rintro e w3 ⟨rfl, hw3⟩; subst hw3)
    | (go_at_call 7; refine (in_nil h1 z1).mono ?_; rintro e w4 ⟨rfl, b4⟩)
    | (go_at_call 8; refine copy_nil.mono ?_; rintro e w5 ⟨rfl, hw5⟩; subst hw5)
    | (go_at_call 9; refine ready_nil.mono ?_; rintro e w6 ⟨rfl, hw6⟩; subst hw6))
  all_goals go_ret
  · exact ⟨rfl, b1.trans (b4.mono z1)⟩
  · exact ⟨rfl, b1⟩
end Go.Ev
