/- Labels and rooms: what is asked of a setup's rooms answers, and writes nothing that was there. -/
import Derived.Test.YtkgaejjkmkfobaaGreatDoorAct
import Derived.LoopTactic
import Derived.Handy
namespace Go.Ev
open Go.Proofs Go.RowKit
set_option maxRecDepth 100000
set_option linter.unusedVariables false

def IsInt (e : Ending) : Prop := ∃ n, e = .returned (.int .i64 n)

/-- a label: its tags can be read -/
def Tags (B : Nat) (w : World) (ad : Option Addr) (len : Nat) : Prop :=
  len = 0 ∨ ∃ (b o : Nat) (z : Nat → Int), ad = some ⟨b, o, none⟩ ∧ b < B ∧ len ≤ 9223372036854775807 ∧ ∀ k, k < len → w.cell? ⟨b, o + k, none⟩ = some (.int .u64 (z k))

theorem Tags.below {B B' : Nat} {w w' : World} {ad : Option Addr} {len : Nat} (h : Tags B w ad len) (hb : Below B w w') (hB : B ≤ B') : Tags B' w' ad len := by
  rcases h with h | ⟨b, o, z, h1, h2, h3, h4⟩
  · exact .inl h
  · exact .inr ⟨b, o, z, h1, Nat.lt_of_lt_of_le h2 hB, h3, fun k hk => by rw [hb.cell (p := ⟨b, o + k, none⟩) h2]; exact h4 k hk⟩

theorem labelRight_any {B : Nat} {ad : Option Addr} {len cap : Nat} {w : World} (h : Tags B w ad len) :
    Calls Tryz.prog 179 #[.slice ad len cap] w fun e w' => IsBool e ∧ w' = w := by
  rcases h with rfl | ⟨b, o, z, rfl, hb, hbig, hc⟩
  · go_enter Tryz.func179, Tryz.ntmps179
    go_wp2
    refine wp_loop_rounds 1 ?_
    rw [rounds_succ]
    go_wp2
    go_ret
    exact ⟨⟨_, rfl⟩, rfl⟩
  · go_enter Tryz.func179, Tryz.ntmps179
    go_wp2
    · go_ret
      exact ⟨⟨_, rfl⟩, rfl⟩
    · go_loop [3, 11] (fun t i => ∃ k : Nat, k ≤ len ∧ i = .int .i64 k ∧ ∃ n, t = .int .u64 n) (fun _ i => len - (intOf i).toNat)
      case atStart => exact ⟨0, Nat.zero_le _, rfl, 0, rfl⟩
      case round =>
        obtain ⟨k, hk, rfl, n, rfl⟩ := hrel
        have hcell : k < len → w.cell? ⟨b, o + k, none⟩ = some (.int .u64 (z k)) := fun hk => hc k hk
        go_wp2
        · go_ret
          exact ⟨⟨_, rfl⟩, rfl⟩
        · go_round
          case rel => exact ⟨k + 1, by omega, by go_num, _, rfl⟩
          case measure => simp [intOf]; omega
        · go_ret
          exact ⟨⟨_, rfl⟩, rfl⟩

theorem roomRight_any {B : Nat} {ad : Option Addr} {len cap : Nat} {r q m : Int} {w : World} (h : Tags B w ad len) (hB : B ≤ w.heap.size) :
    Calls Tryz.prog 221 #[.agg #[.slice ad len cap, .int .i64 r, .int .i64 q, .int .i64 m]] w fun e w' => IsBool e ∧ Below w.heap.size w w' := by
  have h1 : Tags B (w.alloc (.cells #[.slice ad len cap, .int .i64 r, .int .i64 q, .int .i64 m] 102)) ad len := h.below ((Below.refl _ _).alloc hB _) (Nat.le_refl _)
  have hb := (Below.refl w.heap.size w).alloc (Nat.le_refl _) (.cells #[.slice ad len cap, .int .i64 r, .int .i64 q, .int .i64 m] 102)
  go_enter Tryz.func221, Tryz.ntmps221
  go_wp2_with (first
    | (go_at_call 179; refine (labelRight_any h1).mono ?_; rintro e w1 ⟨⟨b, rfl⟩, hw1⟩; subst hw1; cases b)
    | (go_at_call 282; go_in))
  all_goals (go_ret; exact ⟨⟨_, rfl⟩, hb⟩)

theorem cmpU64_any {x y : Int} {w : World} : Calls Tryz.prog 353 #[.int .u64 x, .int .u64 y] w fun e w' => IsInt e ∧ w' = w := by
  go_enter Tryz.func353, Tryz.ntmps353
  go_wp2
  all_goals (go_ret; exact ⟨⟨_, rfl⟩, rfl⟩)

theorem cmpInt_any {x y : Int} {w : World} : Calls Tryz.prog 82 #[.int .i64 x, .int .i64 y] w fun e w' => IsInt e ∧ w' = w := by
  go_enter Tryz.func82, Tryz.ntmps82
  go_wp2
  all_goals (go_ret; exact ⟨⟨_, rfl⟩, rfl⟩)

theorem slicesCompare_any {B : Nat} {ad ad' : Option Addr} {len cap len' cap' : Nat} {w : World} (h : Tags B w ad len) (h' : Tags B w ad' len') :
    Calls Tryz.prog 281 #[.slice ad len cap, .slice ad' len' cap'] w fun e w' => IsInt e ∧ w' = w := by
  rcases h with rfl | ⟨b, o, z, rfl, hb, hbig, hc⟩
  · go_enter Tryz.func281, Tryz.ntmps281
    go_wp2
    refine wp_loop_rounds 1 ?_
    rw [rounds_succ]
    go_wp2
    all_goals (go_ret; exact ⟨⟨_, rfl⟩, rfl⟩)
  · rcases h' with rfl | ⟨b', o', z', rfl, hb', hbig', hc'⟩
    · go_enter Tryz.func281, Tryz.ntmps281
      go_wp2
      go_loop [11] (fun i => ∃ k : Nat, k ≤ len ∧ i = .int .i64 k) (fun i => len - (intOf i).toNat)
      case atStart => exact ⟨0, Nat.zero_le _, rfl⟩
      case round =>
        obtain ⟨k, hk, rfl⟩ := hrel
        have hcell : k < len → w.cell? ⟨b, o + k, none⟩ = some (.int .u64 (z k)) := fun hk => hc k hk
        go_wp2
        all_goals (go_ret; exact ⟨⟨_, rfl⟩, rfl⟩)
    · go_enter Tryz.func281, Tryz.ntmps281
      go_wp2
      go_loop [11] (fun i => ∃ k : Nat, k ≤ len ∧ i = .int .i64 k) (fun i => len - (intOf i).toNat)
      case atStart => exact ⟨0, Nat.zero_le _, rfl⟩
      case round =>
        obtain ⟨k, hk, rfl⟩ := hrel
        have hcell : k < len → w.cell? ⟨b, o + k, none⟩ = some (.int .u64 (z k)) := fun hk => hc k hk
        by_cases hk' : k < len'
        · have hcell' : w.cell? ⟨b', o' + k, none⟩ = some (.int .u64 (z' k)) := hc' k hk'
          go_wp2_with (first
            | (go_at_call 353; refine cmpU64_any.mono ?_; rintro e w1 ⟨⟨n, rfl⟩, hw1⟩; subst hw1))
          · go_ret
            exact ⟨⟨_, rfl⟩, rfl⟩
          · exact ⟨⟨k + 1, by omega, by go_num⟩, by simp [intOf]; omega⟩
          · go_ret
            exact ⟨⟨_, rfl⟩, rfl⟩
        · go_wp2
          all_goals (go_ret; exact ⟨⟨_, rfl⟩, rfl⟩)

theorem cmpOr_any {a b : Int} {g : Nat} {w : World} (h0 : w.cell? ⟨g, 0, none⟩ = some (.int .i64 a)) (h1 : w.cell? ⟨g, 1, none⟩ = some (.int .i64 b)) :
    Calls Tryz.prog 280 #[.slice (some ⟨g, 0, none⟩) 2 2] w fun e w' => IsInt e ∧ w' = w := by
  go_enter Tryz.func280, Tryz.ntmps280
  go_wp2
  go_rounds 3
  all_goals (go_ret; exact ⟨⟨_, rfl⟩, rfl⟩)

theorem labelCompare_any {B : Nat} {ad ad' : Option Addr} {len cap len' cap' : Nat} {w : World} (h : Tags B w ad len) (h' : Tags B w ad' len') :
    Calls Tryz.prog 220 #[.slice ad len cap, .slice ad' len' cap'] w fun e w' => IsInt e ∧ Below w.heap.size w w' := by
  go_enter Tryz.func220, Tryz.ntmps220
  go_wp2_with (first
    | (go_at_call 82; refine cmpInt_any.mono ?_; rintro e w1 ⟨⟨n, rfl⟩, hw1⟩; subst hw1)
    | (go_at_call 281; refine (slicesCompare_any h h').mono ?_; rintro e w2 ⟨⟨m, rfl⟩, hw2⟩; subst hw2)
    | (go_at_call 280; refine (cmpOr_any (a := n) (b := m) (by simp [go_sem]) (by simp [go_sem])).mono ?_; rintro e w3 ⟨⟨x, rfl⟩, hw3⟩; subst hw3))
  go_ret
  exact ⟨⟨_, rfl⟩, (Below.refl _ _).alloc (Nat.le_refl _) _⟩

theorem like_any {B : Nat} {ad ad' : Option Addr} {len cap len' cap' g : Nat} {r q m : Int} {w : World} (h : Tags B w ad len) (h' : Tags B w ad' len') (hB : B ≤ w.heap.size) (hg : w.cell? ⟨g, 0, none⟩ = some (.slice ad' len' cap')) (hgl : g < w.heap.size) :
    Calls Tryz.prog 219 #[.agg #[.slice ad len cap, .int .i64 r, .int .i64 q, .int .i64 m], .pointer (some ⟨g, 0, none⟩)] w fun e w' => IsBool e ∧ Below w.heap.size w w' := by
  have hb := (Below.refl w.heap.size w).alloc (Nat.le_refl _) (.cells #[.slice ad len cap, .int .i64 r, .int .i64 q, .int .i64 m] 102)
  have h1 := h.below (hb.mono hB) (Nat.le_refl _)
  have h1' := h'.below (hb.mono hB) (Nat.le_refl _)
  have hg1 : (w.alloc (.cells #[.slice ad len cap, .int .i64 r, .int .i64 q, .int .i64 m] 102)).cell? ⟨g, 0, none⟩ = some (.slice ad' len' cap') := by rw [hb.cell (p := ⟨g, 0, none⟩) hgl]; exact hg
  go_enter Tryz.func219, Tryz.ntmps219
  go_wp2_with (first
    | (go_at_call 220; refine (labelCompare_any h1 h1').mono ?_; rintro e w1 ⟨⟨n, rfl⟩, hw1⟩))
  go_ret
  exact ⟨⟨_, rfl⟩, hb.trans (hw1.mono (by simp))⟩
end Go.Ev
