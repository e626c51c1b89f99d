/- Entries: whether they are more than is gone through, and whether they may be, is answered, and nothing that was there is written. -/
import Derived.Test.YtgamdeboonigeaaGreatDoorProg
import Derived.WalkKit
import Derived.Below
import Derived.LoopTactic
import Derived.Handy
import Derived.Laws.Externs
namespace Go.Ev
open Go.Proofs Go.RowKit
set_option maxRecDepth 100000
set_option linter.unusedVariables false

def IsBool (e : Ending) : Prop := ∃ b, e = .returned (.bool b)

structure EntryD where
  key : ByteArray
  seq : Int
  num : Bool
  text : ByteArray
  bits : Int

/-- entries: they can be read -/
def Entries (B : Nat) (w : World) (ad : Option Addr) (len : Nat) : Prop :=
  len = 0 ∨ ∃ (b o : Nat) (f : Nat → EntryD), ad = some ⟨b, o, none⟩ ∧ b < B ∧ len ≤ 9223372036854775807 ∧ ∀ k, k < len →
    w.cell? ⟨b, o + k * 5, none⟩ = some (.string (f k).key) ∧ w.cell? ⟨b, o + k * 5 + 1, none⟩ = some (.int .i64 (f k).seq) ∧ w.cell? ⟨b, o + k * 5 + 2, none⟩ = some (.bool (f k).num) ∧
    w.cell? ⟨b, o + k * 5 + 3, none⟩ = some (.string (f k).text) ∧ w.cell? ⟨b, o + k * 5 + 4, none⟩ = some (.int .u64 (f k).bits)

theorem Entries.below {B B' : Nat} {w w' : World} {ad : Option Addr} {len : Nat} (h : Entries B w ad len) (hb : Below B w w') (hB : B ≤ B') : Entries B' w' ad len := by
  rcases h with h | ⟨b, o, f, h1, h2, h3, h4⟩
  · exact .inl h
  · refine .inr ⟨b, o, f, h1, Nat.lt_of_lt_of_le h2 hB, h3, fun k hk => ?_⟩
    obtain ⟨a0, a1, a2, a3, a4⟩ := h4 k hk
    exact ⟨by rw [hb.cell (p := ⟨b, _, none⟩) h2]; exact a0, by rw [hb.cell (p := ⟨b, _, none⟩) h2]; exact a1, by rw [hb.cell (p := ⟨b, _, none⟩) h2]; exact a2, by rw [hb.cell (p := ⟨b, _, none⟩) h2]; exact a3, by rw [hb.cell (p := ⟨b, _, none⟩) h2]; exact a4⟩

theorem ferryFar_any {B : Nat} {ad : Option Addr} {len cap : Nat} {w : World} (h : Entries B w ad len) :
    Calls Tryz.prog 5 #[.slice ad len cap] w fun e w' => IsBool e ∧ w' = w := by
  rcases h with rfl | ⟨b, o, f, rfl, hbl, hbig, hc⟩
  · go_enter Tryz.func5, Tryz.ntmps5
    go_wp2
    go_rounds 1
    all_goals (go_ret; exact ⟨⟨_, rfl⟩, rfl⟩)
  · go_enter Tryz.func5, Tryz.ntmps5
    go_wp2
    · go_ret
      exact ⟨⟨_, rfl⟩, rfl⟩
    · go_loop [3] (fun i => ∃ k : Nat, k ≤ len ∧ i = .int .i64 k) (fun i => len - (intOf i).toNat)
      case atStart => exact ⟨0, Nat.zero_le _, rfl⟩
      case round =>
        obtain ⟨k, hk, rfl⟩ := hrel
        by_cases hk' : k < len
        · obtain ⟨a0, a1, a2, a3, a4⟩ := hc k hk'
          go_wp2
          · go_ret
            exact ⟨⟨_, rfl⟩, rfl⟩
          · exact ⟨⟨k + 1, by omega, by go_num⟩, by simp [intOf]; omega⟩
          · go_ret
            exact ⟨⟨_, rfl⟩, rfl⟩
        · go_wp2
          all_goals (go_ret; exact ⟨⟨_, rfl⟩, rfl⟩)

theorem key_any {s : ByteArray} {w : World} : Calls Tryz.prog 41 #[.string s] w fun e w' => IsBool e ∧ w' = w := by
  go_enter Tryz.func41, Tryz.ntmps41
  go_wp2
  all_goals (go_ret; exact ⟨⟨_, rfl⟩, rfl⟩)

def IsU64 (e : Ending) : Prop := ∃ n, e = .returned (.int .u64 n)
def IsF64 (e : Ending) : Prop := ∃ n, e = .returned (.float .f64 n)

theorem floatNe (t : TypeId) (x : Nat) (w : World) : ∃ b, (binOp .neq t (.float .f64 x) (.float .f64 x)).run Tryz.prog w = .ok (.bool b) w := by
  simp [binOp, Op.floatCmp]

theorem isNaN_any {x : Nat} {w : World} : Calls Tryz.prog 96 #[.float .f64 x] w fun e w' => IsBool e ∧ w' = w := by
  obtain ⟨b, hb⟩ := floatNe 140 x w
  go_enter Tryz.func96, Tryz.ntmps96
  go_wp2
  go_ret
  exact ⟨⟨_, rfl⟩, rfl⟩

theorem bits_run (x : Nat) (w : World) : (callFunc 97 #[.float .f64 x]).run Tryz.prog w = .ok (.value (.int .u64 x)) w := by
  rw [run_callFunc_extern (e := Extern.MathFloatBits.float64bits) Tryz.func97 (by kernel_rfl) (by kernel_rfl) (by kernel_rfl) (by kernel_rfl)]
  rfl
theorem frombits_run (x : Int) (w : World) : (callFunc 62 #[.int .u64 x]).run Tryz.prog w = .ok (.value (.float .f64 x.toNat)) w := by
  rw [run_callFunc_extern (e := Extern.MathFloatBits.float64frombits) Tryz.func62 (by kernel_rfl) (by kernel_rfl) (by kernel_rfl) (by kernel_rfl)]
  rfl

theorem numBits_any {x : Nat} {w : World} : Calls Tryz.prog 66 #[.float .f64 x] w fun e w' => IsU64 e ∧ w' = w := by
  have hr := bits_run
  go_enter Tryz.func66, Tryz.ntmps66
  go_wp2_with (first
    | (go_at_call 96; refine isNaN_any.mono ?_; rintro e w1 ⟨⟨b, rfl⟩, hw⟩; subst hw; cases b))
  all_goals (go_ret; exact ⟨⟨_, rfl⟩, rfl⟩)

theorem numFrom_any {x : Int} {w : World} : Calls Tryz.prog 67 #[.int .u64 x] w fun e w' => IsF64 e ∧ w' = w := by
  have hr := frombits_run
  go_enter Tryz.func67, Tryz.ntmps67
  go_wp2_with (first
    | (go_at_call 66; refine numBits_any.mono ?_; rintro e w1 ⟨⟨b, rfl⟩, hw⟩; subst hw))
  all_goals (go_ret; exact ⟨⟨_, rfl⟩, rfl⟩)
end Go.Ev
