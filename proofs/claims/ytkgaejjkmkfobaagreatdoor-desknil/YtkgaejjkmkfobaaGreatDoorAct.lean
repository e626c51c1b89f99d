/- An act that lies in a variable; that what is more than is gone through answers; a desk that is not there does nothing. -/
import Derived.Test.YtkgaejjkmkfobaaGreatDoorProg
import Derived.WalkKit
import Derived.Below
namespace Go.Ev
open Go.Proofs Go.RowKit
set_option maxRecDepth 100000

/-- an act that lies in a variable -/
structure ActBox (w : World) (g : Nat) (k s p : Int) (bs : ByteArray) (ad : Option Addr) (len cap : Nat) : Prop where
  lt : g < w.heap.size
  c0 : w.cell? ⟨g, 0, none⟩ = some (.int .i64 k)
  c1 : w.cell? ⟨g, 1, none⟩ = some (.int .i64 s)
  c2 : w.cell? ⟨g, 2, none⟩ = some (.int .i64 p)
  c3 : w.cell? ⟨g, 3, none⟩ = some (.string bs)
  c4 : w.cell? ⟨g, 4, none⟩ = some (.slice ad len cap)

theorem ActBox.new (w : World) (k s p : Int) (bs : ByteArray) (ad : Option Addr) (len cap : Nat) (t : TypeId) : ActBox (w.alloc (.cells #[.int .i64 k, .int .i64 s, .int .i64 p, .string bs, .slice ad len cap] t)) w.heap.size k s p bs ad len cap :=
  ⟨by simp, by simp [go_sem], by simp [go_sem], by simp [go_sem], by simp [go_sem], by simp [go_sem]⟩

theorem ActBox.below {w w' : World} {g : Nat} {k s p : Int} {bs : ByteArray} {ad : Option Addr} {len cap : Nat} (h : ActBox w g k s p bs ad len cap) (hB : Below w.heap.size w w') : ActBox w' g k s p bs ad len cap :=
  ⟨Nat.lt_of_lt_of_le h.lt hB.size, by rw [hB.cell h.lt]; exact h.c0, by rw [hB.cell h.lt]; exact h.c1, by rw [hB.cell h.lt]; exact h.c2, by rw [hB.cell h.lt]; exact h.c3, by rw [hB.cell h.lt]; exact h.c4⟩

def IsBool (e : Ending) : Prop := ∃ b, e = .returned (.bool b)

theorem far_any (k s p : Int) (bs : ByteArray) (ad : Option Addr) (len cap : Nat) (w : World) :
    Calls Tryz.prog 7 #[.agg #[.int .i64 k, .int .i64 s, .int .i64 p, .string bs, .slice ad len cap]] w fun e w' => IsBool e ∧ Below w.heap.size w w' := by
  go_enter Tryz.func7, Tryz.ntmps7
  go_wp2
  all_goals (go_ret; exact ⟨⟨_, rfl⟩, (Below.refl _ _).alloc (Nat.le_refl _) _⟩)

theorem deskDo_nil (k s p : Int) (bs : ByteArray) (ad : Option Addr) (len cap : Nat) (w : World) :
    Calls Tryz.prog 16 #[.pointer none, .agg #[.int .i64 k, .int .i64 s, .int .i64 p, .string bs, .slice ad len cap]] w fun e w' => e = .returned (.tuple #[.int .i64 0, .string ByteArray.empty, .int .i64 2]) ∧ Below w.heap.size w w' := by
  go_enter Tryz.func16, Tryz.ntmps16
  go_wp2
  go_ret3
  exact ⟨rfl, (Below.refl _ _).alloc (Nat.le_refl _) _⟩

end Go.Ev
