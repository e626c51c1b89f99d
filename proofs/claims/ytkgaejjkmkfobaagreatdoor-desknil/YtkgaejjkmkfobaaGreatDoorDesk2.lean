/- A setup's rooms: whether a setup may be, and whether it is more than is gone through, is answered, and nothing that was there is written. -/
import Derived.Test.YtkgaejjkmkfobaaGreatDoorDesk1
namespace Go.Ev
open Go.Proofs Go.RowKit
set_option maxRecDepth 100000
set_option linter.unusedVariables false

structure RoomD where
  ad : Option Addr
  len : Nat
  cap : Nat
  r : Int
  q : Int
  m : Int

/-- a setup's rooms: they can be read -/
def Rooms (B : Nat) (w : World) (ad : Option Addr) (len : Nat) : Prop :=
  len = 0 ∨ ∃ (b o : Nat) (f : Nat → RoomD), ad = some ⟨b, o, none⟩ ∧ b < B ∧ len ≤ 9223372036854775807 ∧ ∀ k, k < len →
    w.cell? ⟨b, o + k * 4, none⟩ = some (.slice (f k).ad (f k).len (f k).cap) ∧ w.cell? ⟨b, o + k * 4 + 1, none⟩ = some (.int .i64 (f k).r) ∧ w.cell? ⟨b, o + k * 4 + 2, none⟩ = some (.int .i64 (f k).q) ∧
    w.cell? ⟨b, o + k * 4 + 3, none⟩ = some (.int .i64 (f k).m) ∧ Tags B w (f k).ad (f k).len

theorem Rooms.below {B B' : Nat} {w w' : World} {ad : Option Addr} {len : Nat} (h : Rooms B w ad len) (hb : Below B w w') (hB : B ≤ B') : Rooms B' w' ad len := by
  rcases h with h | ⟨b, o, f, h1, h2, h3, h4⟩
  · exact .inl h
  · refine .inr ⟨b, o, f, h1, Nat.lt_of_lt_of_le h2 hB, h3, fun k hk => ?_⟩
    obtain ⟨a0, a1, a2, a3, a4⟩ := h4 k hk
    exact ⟨by rw [hb.cell (p := ⟨b, _, none⟩) h2]; exact a0, by rw [hb.cell (p := ⟨b, _, none⟩) h2]; exact a1, by rw [hb.cell (p := ⟨b, _, none⟩) h2]; exact a2, by rw [hb.cell (p := ⟨b, _, none⟩) h2]; exact a3, a4.below hb hB⟩

theorem Rooms.take {B : Nat} {w : World} {ad : Option Addr} {len n : Nat} (h : Rooms B w ad len) (hn : n ≤ len) : Rooms B w ad n := by
  rcases h with h | ⟨b, o, f, h1, h2, h3, h4⟩
  · exact .inl (by omega)
  · exact .inr ⟨b, o, f, h1, h2, by omega, fun k hk => h4 k (by omega)⟩

theorem indexFunc_any {B : Nat} {ad ad' : Option Addr} {len cap len' cap' g : Nat} {w : World} (h : Rooms B w ad len) (h' : Tags B w ad' len') (hB : B ≤ w.heap.size) (hg : w.cell? ⟨g, 0, none⟩ = some (.slice ad' len' cap')) (hgl : g < w.heap.size) :
    Calls Tryz.prog 283 #[.slice ad len cap, .func (.func 219) #[] #[.pointer (some ⟨g, 0, none⟩)]] w fun e w' => IsInt e ∧ Below w.heap.size w w' := by
  rcases h with rfl | ⟨b, o, f, rfl, hb, hbig, hc⟩
  · go_enter Tryz.func283, Tryz.ntmps283
    go_wp2
    go_rounds 1
    go_ret
    exact ⟨⟨_, rfl⟩, Below.refl _ _⟩
  · go_enter Tryz.func283, Tryz.ntmps283
    go_wp2
    go_loopw [8] (fun i wr => ∃ k : Nat, k ≤ len ∧ i = .int .i64 k ∧ Below w.heap.size w wr) (fun i _ => len - (intOf i).toNat)
    case atStart => exact ⟨0, Nat.zero_le _, rfl, Below.refl _ _⟩
    case round =>
      obtain ⟨k, hk, rfl, hw⟩ := hrel
      by_cases hk' : k < len
      · obtain ⟨a0, a1, a2, a3, a4⟩ := hc k hk'
        have hbw : b < w.heap.size := Nat.lt_of_lt_of_le hb hB
        have b0 : wr.cell? ⟨b, o + k * 4, none⟩ = some (.slice (f k).ad (f k).len (f k).cap) := by rw [hw.cell (p := ⟨b, _, none⟩) hbw]; exact a0
        have b1 : wr.cell? ⟨b, o + k * 4 + 1, none⟩ = some (.int .i64 (f k).r) := by rw [hw.cell (p := ⟨b, _, none⟩) hbw]; exact a1
        have b2 : wr.cell? ⟨b, o + k * 4 + 2, none⟩ = some (.int .i64 (f k).q) := by rw [hw.cell (p := ⟨b, _, none⟩) hbw]; exact a2
        have b3 : wr.cell? ⟨b, o + k * 4 + 3, none⟩ = some (.int .i64 (f k).m) := by rw [hw.cell (p := ⟨b, _, none⟩) hbw]; exact a3
        have a5 := a4.below (hw.mono hB) hB
        have h'5 := h'.below (hw.mono hB) hB
        have hg5 : wr.cell? ⟨g, 0, none⟩ = some (.slice ad' len' cap') := by rw [hw.cell (p := ⟨g, 0, none⟩) hgl]; exact hg
        clear a0 a1 a2 a3 a4
        have hg6 : g < wr.heap.size := Nat.lt_of_lt_of_le hgl hw.size
        go_wp2_with (first
          | (go_at_call 219; refine (like_any a5 h'5 hw.size hg5 hg6).mono ?_; rintro e w1 ⟨⟨x, rfl⟩, hw1⟩; cases x))
        · exact ⟨⟨k + 1, by omega, by go_num, hw.trans (hw1.mono hw.size)⟩, by simp [intOf]; omega⟩
        · go_ret
          exact ⟨⟨_, rfl⟩, hw.trans (hw1.mono hw.size)⟩
      · go_wp2
        go_ret
        exact ⟨⟨_, rfl⟩, hw⟩

theorem containsFunc_any {B : Nat} {ad ad' : Option Addr} {len cap len' cap' g : Nat} {w : World} (h : Rooms B w ad len) (h' : Tags B w ad' len') (hB : B ≤ w.heap.size) (hg : w.cell? ⟨g, 0, none⟩ = some (.slice ad' len' cap')) (hgl : g < w.heap.size) :
    Calls Tryz.prog 222 #[.slice ad len cap, .func (.func 219) #[] #[.pointer (some ⟨g, 0, none⟩)]] w fun e w' => IsBool e ∧ Below w.heap.size w w' := by
  go_enter Tryz.func222, Tryz.ntmps222
  go_wp2_with (first
    | (go_at_call 283; refine (indexFunc_any h h' hB hg hgl).mono ?_; rintro e w1 ⟨⟨n, rfl⟩, hw1⟩))
  go_ret
  exact ⟨⟨_, rfl⟩, hw1⟩

/-- a setup in a variable -/
structure SetupBox (w : World) (g : Nat) (p s n : Int) (ad : Option Addr) (len cap : Nat) : Prop where
  lt : g < w.heap.size
  c0 : w.cell? ⟨g, 0, none⟩ = some (.int .i64 p)
  c1 : w.cell? ⟨g, 1, none⟩ = some (.int .i64 s)
  c2 : w.cell? ⟨g, 2, none⟩ = some (.int .i64 n)
  c3 : w.cell? ⟨g, 3, none⟩ = some (.slice ad len cap)

theorem SetupBox.new (w : World) (p s n : Int) (ad : Option Addr) (len cap : Nat) (t : TypeId) : SetupBox (w.alloc (.cells #[.int .i64 p, .int .i64 s, .int .i64 n, .slice ad len cap] t)) w.heap.size p s n ad len cap :=
  ⟨by simp, by simp [go_sem], by simp [go_sem], by simp [go_sem], by simp [go_sem]⟩

theorem SetupBox.below {w w' : World} {g : Nat} {p s n : Int} {ad : Option Addr} {len cap : Nat} (h : SetupBox w g p s n ad len cap) (hB : Below w.heap.size w w') : SetupBox w' g p s n ad len cap :=
  ⟨Nat.lt_of_lt_of_le h.lt hB.size, by rw [hB.cell h.lt]; exact h.c0, by rw [hB.cell h.lt]; exact h.c1, by rw [hB.cell h.lt]; exact h.c2, by rw [hB.cell h.lt]; exact h.c3⟩

def FarSays (e : Ending) (len : Nat) : Prop := ∃ b, e = .returned (.bool b) ∧ (b = false → len ≤ 20)

theorem far18_any {B : Nat} {p s n : Int} {ad : Option Addr} {len cap : Nat} {w : World} (h : Rooms B w ad len) (hB : B ≤ w.heap.size) :
    Calls Tryz.prog 15 #[.agg #[.int .i64 p, .int .i64 s, .int .i64 n, .slice ad len cap]] w fun e w' => FarSays e len ∧ Below w.heap.size w w' := by
  have hb := (Below.refl w.heap.size w).alloc (Nat.le_refl _) (.cells #[.int .i64 p, .int .i64 s, .int .i64 n, .slice ad len cap] 50)
  have h1 := h.below (hb.mono hB) (Nat.le_refl _)
  rcases h1 with rfl | ⟨b, o, f, rfl, hbl, hbig, hc⟩
  · go_enter Tryz.func15, Tryz.ntmps15
    go_wp2
    go_rounds 1
    all_goals (go_ret; exact ⟨⟨_, rfl, by intro h; first | omega | cases h⟩, hb⟩)
  · go_enter Tryz.func15, Tryz.ntmps15
    go_wp2
    · go_ret
      exact ⟨⟨_, rfl, by intro h; first | omega | cases h⟩, hb⟩
    · go_loop [3] (fun i => ∃ k : Nat, k ≤ len ∧ i = .int .i64 k) (fun i => len - (intOf i).toNat)
      case atStart => exact ⟨0, Nat.zero_le _, rfl⟩
      case round =>
        obtain ⟨k, hk, rfl⟩ := hrel
        by_cases hk' : k < len
        · obtain ⟨a0, a1, a2, a3, a4⟩ := hc k hk'
          go_wp2
          · go_ret
            exact ⟨⟨_, rfl, by intro h; first | omega | cases h⟩, hb⟩
          · exact ⟨⟨k + 1, by omega, by go_num⟩, by simp [intOf]; omega⟩
        · go_wp2
          all_goals (go_ret; exact ⟨⟨_, rfl, by intro h; first | omega | cases h⟩, hb⟩)

theorem vaultRight_any {B : Nat} {p s n : Int} {ad : Option Addr} {len cap : Nat} {w : World} (h : Rooms B w ad len) (hB : B ≤ w.heap.size) (hl : len ≤ cap) :
    Calls Tryz.prog 167 #[.agg #[.int .i64 p, .int .i64 s, .int .i64 n, .slice ad len cap]] w fun e w' => IsBool e ∧ Below w.heap.size w w' := by
  have hmf : ∀ (fn : Fn) (first cap : Array Value) (w : World), (Instr.makeFunc fn first cap).run Tryz.prog w = .ok (.func fn first cap) w := fun _ _ _ _ => rfl
  have hb := (Below.refl w.heap.size w).alloc (Nat.le_refl _) (.cells #[.int .i64 p, .int .i64 s, .int .i64 n, .slice ad len cap] 50)
  have hx := SetupBox.new w p s n ad len cap 50
  rcases h with rfl | ⟨b, o, f, rfl, hbl, hbig, hc⟩
  · go_enter Tryz.func167, Tryz.ntmps167
    go_wp2
    all_goals first
      | (go_ret; exact ⟨⟨_, rfl⟩, hb⟩)
      | (go_rounds 1; go_ret; exact ⟨⟨_, rfl⟩, hb⟩)
  · go_enter Tryz.func167, Tryz.ntmps167
    go_wp2
    all_goals try (go_ret; exact ⟨⟨_, rfl⟩, hb⟩)
    go_loopw [31] (fun i wr => ∃ k : Nat, k ≤ len ∧ i = .int .i64 k ∧ Below w.heap.size w wr ∧ SetupBox wr w.heap.size p s n (some ⟨b, o, none⟩) len cap) (fun i _ => len - (intOf i).toNat)
    case atStart => exact ⟨0, Nat.zero_le _, rfl, hb, hx⟩
    case round =>
      obtain ⟨k, hk, rfl, hw, hx1⟩ := hrel
      obtain ⟨x0, x1, x2, x3, x4⟩ := id hx1
      have hbw : b < w.heap.size := Nat.lt_of_lt_of_le hbl hB
      by_cases hk' : k < len
      · obtain ⟨a0, a1, a2, a3, a4⟩ := hc k hk'
        have b0 : wr.cell? ⟨b, o + k * 4, none⟩ = some (.slice (f k).ad (f k).len (f k).cap) := by rw [hw.cell (p := ⟨b, _, none⟩) hbw]; exact a0
        have b1 : wr.cell? ⟨b, o + k * 4 + 1, none⟩ = some (.int .i64 (f k).r) := by rw [hw.cell (p := ⟨b, _, none⟩) hbw]; exact a1
        have b2 : wr.cell? ⟨b, o + k * 4 + 2, none⟩ = some (.int .i64 (f k).q) := by rw [hw.cell (p := ⟨b, _, none⟩) hbw]; exact a2
        have b3 : wr.cell? ⟨b, o + k * 4 + 3, none⟩ = some (.int .i64 (f k).m) := by rw [hw.cell (p := ⟨b, _, none⟩) hbw]; exact a3
        clear a0 a1 a2 a3
        have hn := (Below.refl wr.heap.size wr).alloc (Nat.le_refl _) (.cells #[.slice (f k).ad (f k).len (f k).cap, .int .i64 (f k).r, .int .i64 (f k).q, .int .i64 (f k).m] 102)
        have hz : (wr.alloc (.cells #[.slice (f k).ad (f k).len (f k).cap, .int .i64 (f k).r, .int .i64 (f k).q, .int .i64 (f k).m] 102)).heap.size = wr.heap.size + 1 := by simp
        have hg0 : (wr.alloc (.cells #[.slice (f k).ad (f k).len (f k).cap, .int .i64 (f k).r, .int .i64 (f k).q, .int .i64 (f k).m] 102)).cell? ⟨wr.heap.size, 0, none⟩ = some (.slice (f k).ad (f k).len (f k).cap) := by simp [go_sem]
        have hx2 := hx1.below hn
        have hw2 : Below w.heap.size w _ := hw.trans (hn.mono hw.size)
        have ht2 := a4.below (hw2.mono hB) hB
        have hsz := hw.size
        go_wp2_with (first
          | (go_at_call 221; refine (roomRight_any ht2 (by omega)).mono ?_; rintro e w1 ⟨⟨x, rfl⟩, hw3⟩; obtain ⟨y0, y1, y2, y3, y4⟩ := hx2.below hw3; cases x)
          | (go_at_call 222
             refine (containsFunc_any (B := w.heap.size) (ad' := (f k).ad) (len' := (f k).len) (cap' := (f k).cap) ((Rooms.take (.inr ⟨b, o, f, rfl, hbl, hbig, hc⟩) (by omega)).below (B := B) ((hw2.trans (hw3.mono (by omega))).mono hB) hB) (ht2.below (hw3.mono (by omega)) (Nat.le_refl _)) (by have := hw3.size; omega) (by rw [hw3.cell (p := ⟨wr.heap.size, 0, none⟩) (by rw [hz]; exact Nat.lt_succ_self _)]; exact hg0) (by have := hw3.size; omega)).mono ?_
             rintro e w3 ⟨⟨x, rfl⟩, hw4⟩
             obtain ⟨z0, z1, z2, z3, z4⟩ := (hx2.below hw3).below hw4
             cases x))
        · go_ret
          exact ⟨⟨_, rfl⟩, hw2.trans (hw3.mono (by omega))⟩
        · have h3 := hw3.size
          exact ⟨⟨k + 1, by omega, by go_num, (hw2.trans (hw3.mono (by omega))).trans (hw4.mono (by omega)), (hx2.below hw3).below hw4⟩, by simp [intOf]; omega⟩
        · have h3 := hw3.size
          go_ret
          exact ⟨⟨_, rfl⟩, (hw2.trans (hw3.mono (by omega))).trans (hw4.mono (by omega))⟩
      · go_wp2
        go_ret
        exact ⟨⟨_, rfl⟩, hw⟩
end Go.Ev
