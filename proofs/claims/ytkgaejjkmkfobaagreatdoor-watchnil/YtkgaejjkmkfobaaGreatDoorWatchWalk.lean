/- WatchNil answers true, of every act and number. -/
import Derived.Test.YtkgaejjkmkfobaaGreatDoorMW
import Derived.Test.YtkgaejjkmkfobaaGreatDoorAct
namespace Go.Ev
open Go.Proofs Go.RowKit
set_option maxRecDepth 100000

theorem watchDo_nil (k s p : Int) (bs : ByteArray) (ad : Option Addr) (len cap : Nat) (w : World) :
    Calls Tryz.prog 28 #[.pointer none, .agg #[.int .i64 k, .int .i64 s, .int .i64 p, .string bs, .slice ad len cap]] w fun e w' => e = .returned (.tuple #[.int .i64 0, .string ByteArray.empty, .int .i64 2]) ∧ Below w.heap.size w w' := by
  go_enter Tryz.func28, Tryz.ntmps28
  go_wp2
  go_ret3
  exact ⟨rfl, (Below.refl _ _).alloc (Nat.le_refl _) _⟩

theorem calm_nil (n : Int) (w : World) : Calls Tryz.prog 35 #[.pointer none, .int .i64 n] w fun e w' => e = .returned (.int .i64 0) ∧ w' = w := by
  go_enter Tryz.func35, Tryz.ntmps35
  go_wp2
  refine wp_loop_rounds 1 ?_
  rw [rounds_succ]
  go_wp2
  go_ret
  exact ⟨rfl, rfl⟩

theorem watchNil_any (k s p : Int) (bs : ByteArray) (ad : Option Addr) (len cap : Nat) (n : Int) (w : World) :
    Calls Tryz.prog 5 #[.agg #[.int .i64 k, .int .i64 s, .int .i64 p, .string bs, .slice ad len cap], .int .i64 n] w fun e w' => e = .returned (.bool true) ∧ Below w.heap.size w w' := by
  go_enter Tryz.func5, Tryz.ntmps5
  have hb0 := ActBox.new w k s p bs ad len cap 24
  go_wp2_with (first
    | (go_at_call 27; refine (W_true _).mono ?_; rintro e w1 ⟨rfl, hB1⟩; have hb1 := hb0.below hB1; obtain ⟨l1, c10, c11, c12, c13, c14⟩ := id hb1)
    | (go_at_call 7; refine (far_any _ _ _ _ _ _ _ _).mono ?_; rintro e w2 ⟨⟨b, rfl⟩, hB2⟩; have hb2 := hb1.below hB2; obtain ⟨l2, c20, c21, c22, c23, c24⟩ := id hb2; cases b)
    | (go_at_call 28; refine (watchDo_nil _ _ _ _ _ _ _ _).mono ?_; rintro e w3 ⟨rfl, hB3⟩; have hb3 := hb2.below hB3; obtain ⟨l3, c30, c31, c32, c33, c34⟩ := id hb3)
    | (go_at_call 16; refine (deskDo_nil _ _ _ _ _ _ _ _).mono ?_; rintro e w4 ⟨rfl, hB4⟩)
    | (go_at_call 35; refine (calm_nil _ _).mono ?_; rintro e w5 ⟨rfl, hw5⟩)
    | (go_at_call 29; go_in) | (go_at_call 30; go_in) | (go_at_call 31; go_in) | (go_at_call 32; go_in) | (go_at_call 33; go_in) | (go_at_call 34; go_in))
  · go_ret
    have z1 : w.heap.size + 1 ≤ w1.heap.size := by have := hB1.size; simpa using this
    have z2 := hB2.size
    have z3 := hB3.size
    have z4 := hB4.size
    have e1 : Below w.heap.size w w2 := (((Below.refl _ _).alloc (Nat.le_refl _) _).trans (hB1.mono (by simp))).trans (hB2.mono (by omega))
    have e2 : Below w.heap.size w w4 := (e1.trans (hB3.mono (by omega))).trans (hB4.mono (by omega))
    subst hw5
    exact ⟨rfl, e2.alloc (by omega) _⟩
  · go_ret
    have e1 : Below w.heap.size w w2 := (((Below.refl _ _).alloc (Nat.le_refl _) _).trans (hB1.mono (by simp))).trans (hB2.mono (by have := hB1.size; simp at this; omega))
    exact ⟨rfl, e1⟩
end Go.Ev
