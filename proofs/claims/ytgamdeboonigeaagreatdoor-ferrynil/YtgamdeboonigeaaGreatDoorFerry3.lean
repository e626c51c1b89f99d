/- Entries may be: it is answered. -/
import Derived.Test.YtgamdeboonigeaaGreatDoorFerry2
namespace Go.Ev
open Go.Proofs Go.RowKit
set_option maxRecDepth 100000
set_option linter.unusedVariables false

/-- the entry that a round looks at lies in a variable -/
structure EntryBox (w : World) (g : Nat) (f : EntryD) : Prop where
  lt : g < w.heap.size
  c0 : w.cell? ⟨g, 0, none⟩ = some (.string f.key)
  c1 : w.cell? ⟨g, 1, none⟩ = some (.int .i64 f.seq)
  c2 : w.cell? ⟨g, 2, none⟩ = some (.bool f.num)
  c3 : w.cell? ⟨g, 3, none⟩ = some (.string f.text)
  c4 : w.cell? ⟨g, 4, none⟩ = some (.int .u64 f.bits)

theorem EntryBox.new (w : World) (f : EntryD) (t : TypeId) : EntryBox (w.alloc (.cells #[.string f.key, .int .i64 f.seq, .bool f.num, .string f.text, .int .u64 f.bits] t)) w.heap.size f :=
  ⟨by simp, by simp [go_sem], by simp [go_sem], by simp [go_sem], by simp [go_sem], by simp [go_sem]⟩

theorem EntryBox.below {w w' : World} {g : Nat} {f : EntryD} (h : EntryBox w g f) (hB : Below w.heap.size w w') : EntryBox w' g f :=
  ⟨Nat.lt_of_lt_of_le h.lt hB.size, by rw [hB.cell h.lt]; exact h.c0, by rw [hB.cell h.lt]; exact h.c1, by rw [hB.cell h.lt]; exact h.c2, by rw [hB.cell h.lt]; exact h.c3, by rw [hB.cell h.lt]; exact h.c4⟩

theorem stringGe (t : TypeId) (s u : ByteArray) : ∃ q, ∀ w, (binOp .geq t (.string s) (.string u)).run Tryz.prog w = .ok (.bool q) w := ⟨!Op.bytesLess s.toList u.toList, fun w => by simp [binOp, Op.stringOp]⟩

set_option maxHeartbeats 16000000 in
theorem diffRight_any {B : Nat} {ad : Option Addr} {len cap : Nat} {w : World} (h : Entries B w ad len) (hB : B ≤ w.heap.size) :
    Calls Tryz.prog 16 #[.slice ad len cap] w fun e w' => IsBool e ∧ Below w.heap.size w w' := by
  rcases h with rfl | ⟨b, o, f, rfl, hbl, hbig, hc⟩
  · go_enter Tryz.func16, Tryz.ntmps16
    go_wp2
    go_rounds 1
    all_goals (go_ret; exact ⟨⟨_, rfl⟩, Below.refl _ _⟩)
  · go_enter Tryz.func16, Tryz.ntmps16
    go_wp2
    go_loopw [7] (fun i wr => ∃ k : Nat, k ≤ len ∧ i = .int .i64 k ∧ Below w.heap.size w wr) (fun i _ => len - (intOf i).toNat)
    case atStart => exact ⟨0, Nat.zero_le _, rfl, Below.refl _ _⟩
    case round =>
      obtain ⟨k, hk, rfl, hw⟩ := hrel
      have hbw : b < w.heap.size := Nat.lt_of_lt_of_le hbl hB
      by_cases hk' : k < len
      · have at_ : ∀ j, j < len → wr.cell? ⟨b, o + j * 5, none⟩ = some (.string (f j).key) ∧ wr.cell? ⟨b, o + j * 5 + 1, none⟩ = some (.int .i64 (f j).seq) ∧ wr.cell? ⟨b, o + j * 5 + 2, none⟩ = some (.bool (f j).num) ∧
            wr.cell? ⟨b, o + j * 5 + 3, none⟩ = some (.string (f j).text) ∧ wr.cell? ⟨b, o + j * 5 + 4, none⟩ = some (.int .u64 (f j).bits) := by
          intro j hj
          obtain ⟨a0, a1, a2, a3, a4⟩ := hc j hj
          exact ⟨by rw [hw.cell (p := ⟨b, _, none⟩) hbw]; exact a0, by rw [hw.cell (p := ⟨b, _, none⟩) hbw]; exact a1, by rw [hw.cell (p := ⟨b, _, none⟩) hbw]; exact a2, by rw [hw.cell (p := ⟨b, _, none⟩) hbw]; exact a3, by rw [hw.cell (p := ⟨b, _, none⟩) hbw]; exact a4⟩
        obtain ⟨b0, b1, b2, b3, b4⟩ := at_ k hk'
        have hn := (Below.refl wr.heap.size wr).alloc (Nat.le_refl _) (.cells #[.string (f k).key, .int .i64 (f k).seq, .bool (f k).num, .string (f k).text, .int .u64 (f k).bits] 53)
        have hx := EntryBox.new wr (f k) 53
        have hsz := hw.size
        have hw2 : Below w.heap.size w _ := hw.trans (hn.mono hsz)
        go_wp2
        refine wp_region_any (by kernel_rfl) ?_
        change wpAny _ _ _ _ _ _ _ (World.drew _)
        refine wpAny_named (i := 0) (v := ?_) rfl (by kernel_rfl) (by kernel_rfl) (by kernel_rfl) (fun _ _ _ h => h) (Or.inl ⟨by rfl, ?_⟩) (fun K hK => ?_)
        rotate_left
        · intro w; go_simp; try with_reducible rfl
        go_simp
        refine hK _ _ ?_
        clear hK K
        have hd := (Below.refl _ _).drew (B := (wr.alloc (.cells #[.string (f k).key, .int .i64 (f k).seq, .bool (f k).num, .string (f k).text, .int .u64 (f k).bits] 53)).heap.size) (a := wr.alloc (.cells #[.string (f k).key, .int .i64 (f k).seq, .bool (f k).num, .string (f k).text, .int .u64 (f k).bits] 53)) (w := wr.alloc (.cells #[.string (f k).key, .int .i64 (f k).seq, .bool (f k).num, .string (f k).text, .int .u64 (f k).bits] 53))
        have hx1 := hx.below hd
        have hw2d := hw2.drew
        have hz1 := hw2d.size
        refine wpAny_ready (rs := [1]) (by kernel_rfl) (by simp) ?_
        refine AllReady.cons rfl (fun K hK => ?_) AllReady.nil
        go_simp
        refine hK _ _ ?_
        clear hK K
        refine wpAny_ready (rs := [2]) (by kernel_rfl) (by simp) ?_
        refine AllReady.cons rfl (fun K hK => ?_) AllReady.nil
        go_simp
        go_wp2_with fail
        refine key_any.mono ?_
        rintro e w1 ⟨⟨x, rfl⟩, hw1⟩
        subst hw1
        refine hK _ _ ?_
        clear hK K
        cases x
        · skip
          refine wpAny_named (i := 3) (v := ?_) rfl (by kernel_rfl) (by kernel_rfl) (by kernel_rfl) (fun _ _ _ h => h) (Or.inl ⟨by rfl, ?_⟩) (fun K hK => ?_)
          rotate_left
          · intro w; go_simp; try with_reducible rfl
          go_simp
          refine hK _ _ ?_
          clear hK K
          refine wpAny_named (i := 4) (v := ?_) rfl (by kernel_rfl) (by kernel_rfl) (by kernel_rfl) (fun _ _ _ h => h) (Or.inl ⟨by rfl, ?_⟩) (fun K hK => ?_)
          rotate_left
          · intro w; go_simp; try with_reducible rfl
          go_simp
          refine hK _ _ ?_
          clear hK K
          refine wpAny_named (i := 5) (v := undef) rfl (by kernel_rfl) (by kernel_rfl) (by kernel_rfl) (fun _ _ _ h => h) (Or.inr ⟨by rfl, rfl⟩) (fun K hK => ?_)
          go_simp
          refine hK _ _ ?_
          clear hK K
          refine wpAny_named (i := 6) (v := undef) rfl (by kernel_rfl) (by kernel_rfl) (by kernel_rfl) (fun _ _ _ h => h) (Or.inr ⟨by rfl, rfl⟩) (fun K hK => ?_)
          go_simp
          refine hK _ _ ?_
          clear hK K
          refine wpAny_named (i := 7) (v := undef) rfl (by kernel_rfl) (by kernel_rfl) (by kernel_rfl) (fun _ _ _ h => h) (Or.inr ⟨by rfl, rfl⟩) (fun K hK => ?_)
          go_simp
          refine hK _ _ ?_
          clear hK K
          refine wpAny_named (i := 8) (v := undef) rfl (by kernel_rfl) (by kernel_rfl) (by kernel_rfl) (fun _ _ _ h => h) (Or.inr ⟨by rfl, rfl⟩) (fun K hK => ?_)
          go_simp
          refine hK _ _ ?_
          clear hK K
          refine wpAny_named (i := 9) (v := ?_) rfl (by kernel_rfl) (by kernel_rfl) (by kernel_rfl) (fun _ _ _ h => h) (Or.inl ⟨by rfl, ?_⟩) (fun K hK => ?_)
          rotate_left
          · intro w; go_simp; try with_reducible rfl
          go_simp
          refine hK _ _ ?_
          clear hK K
          refine wpAny_named (i := 10) (v := ?_) rfl (by kernel_rfl) (by kernel_rfl) (by kernel_rfl) (fun _ _ _ h => h) (Or.inl ⟨by rfl, ?_⟩) (fun K hK => ?_)
          rotate_left
          · intro w; go_simp; try with_reducible rfl
          go_simp
          refine hK _ _ ?_
          clear hK K
          refine wpAny_named (i := 11) (v := undef) rfl (by kernel_rfl) (by kernel_rfl) (by kernel_rfl) (fun _ _ _ h => h) (Or.inr ⟨by rfl, rfl⟩) (fun K hK => ?_)
          go_simp
          refine hK _ _ ?_
          clear hK K
          refine wpAny_named (i := 12) (v := undef) rfl (by kernel_rfl) (by kernel_rfl) (by kernel_rfl) (fun _ _ _ h => h) (Or.inr ⟨by rfl, rfl⟩) (fun K hK => ?_)
          go_simp
          refine hK _ _ ?_
          clear hK K
          refine wpAny_named (i := 13) (v := undef) rfl (by kernel_rfl) (by kernel_rfl) (by kernel_rfl) (fun _ _ _ h => h) (Or.inr ⟨by rfl, rfl⟩) (fun K hK => ?_)
          go_simp
          refine hK _ _ ?_
          clear hK K
          refine wpAny_named (i := 14) (v := ?_) rfl (by kernel_rfl) (by kernel_rfl) (by kernel_rfl) (fun _ _ _ h => h) (Or.inl ⟨by rfl, ?_⟩) (fun K hK => ?_)
          rotate_left
          · intro w; go_simp; try with_reducible rfl
          go_simp
          refine hK _ _ ?_
          clear hK K
          refine wpAny_named (i := 15) (v := ?_) rfl (by kernel_rfl) (by kernel_rfl) (by kernel_rfl) (fun _ _ _ h => h) (Or.inl ⟨by rfl, ?_⟩) (fun K hK => ?_)
          rotate_left
          · intro w; go_simp; try with_reducible rfl
          go_simp
          refine hK _ _ ?_
          clear hK K
          refine wpAny_named (i := 16) (v := undef) rfl (by kernel_rfl) (by kernel_rfl) (by kernel_rfl) (fun _ _ _ h => h) (Or.inr ⟨by rfl, rfl⟩) (fun K hK => ?_)
          go_simp
          refine hK _ _ ?_
          clear hK K
          refine wpAny_named (i := 17) (v := undef) rfl (by kernel_rfl) (by kernel_rfl) (by kernel_rfl) (fun _ _ _ h => h) (Or.inr ⟨by rfl, rfl⟩) (fun K hK => ?_)
          go_simp
          refine hK _ _ ?_
          clear hK K
          refine wpAny_named (i := 18) (v := undef) rfl (by kernel_rfl) (by kernel_rfl) (by kernel_rfl) (fun _ _ _ h => h) (Or.inr ⟨by rfl, rfl⟩) (fun K hK => ?_)
          go_simp
          refine hK _ _ ?_
          clear hK K
          refine wpAny_named (i := 19) (v := undef) rfl (by kernel_rfl) (by kernel_rfl) (by kernel_rfl) (fun _ _ _ h => h) (Or.inr ⟨by rfl, rfl⟩) (fun K hK => ?_)
          go_simp
          refine hK _ _ ?_
          clear hK K
          refine wpAny_named (i := 20) (v := undef) rfl (by kernel_rfl) (by kernel_rfl) (by kernel_rfl) (fun _ _ _ h => h) (Or.inr ⟨by rfl, rfl⟩) (fun K hK => ?_)
          go_simp
          refine hK _ _ ?_
          clear hK K
          refine wpAny_named (i := 21) (v := undef) rfl (by kernel_rfl) (by kernel_rfl) (by kernel_rfl) (fun _ _ _ h => h) (Or.inr ⟨by rfl, rfl⟩) (fun K hK => ?_)
          go_simp
          refine hK _ _ ?_
          clear hK K
          refine wpAny_named (i := 22) (v := undef) rfl (by kernel_rfl) (by kernel_rfl) (by kernel_rfl) (fun _ _ _ h => h) (Or.inr ⟨by rfl, rfl⟩) (fun K hK => ?_)
          go_simp
          refine hK _ _ ?_
          clear hK K
          refine wpAny_named (i := 23) (v := undef) rfl (by kernel_rfl) (by kernel_rfl) (by kernel_rfl) (fun _ _ _ h => h) (Or.inr ⟨by rfl, rfl⟩) (fun K hK => ?_)
          go_simp
          refine hK _ _ ?_
          clear hK K
          refine wpAny_named (i := 24) (v := undef) rfl (by kernel_rfl) (by kernel_rfl) (by kernel_rfl) (fun _ _ _ h => h) (Or.inr ⟨by rfl, rfl⟩) (fun K hK => ?_)
          go_simp
          refine hK _ _ ?_
          clear hK K
          refine wpAny_named (i := 25) (v := undef) rfl (by kernel_rfl) (by kernel_rfl) (by kernel_rfl) (fun _ _ _ h => h) (Or.inr ⟨by rfl, rfl⟩) (fun K hK => ?_)
          go_simp
          refine hK _ _ ?_
          clear hK K
          refine wpAny_named (i := 26) (v := undef) rfl (by kernel_rfl) (by kernel_rfl) (by kernel_rfl) (fun _ _ _ h => h) (Or.inr ⟨by rfl, rfl⟩) (fun K hK => ?_)
          go_simp
          refine hK _ _ ?_
          clear hK K
          refine wpAny_named (i := 27) (v := undef) rfl (by kernel_rfl) (by kernel_rfl) (by kernel_rfl) (fun _ _ _ h => h) (Or.inr ⟨by rfl, rfl⟩) (fun K hK => ?_)
          go_simp
          refine hK _ _ ?_
          clear hK K
          refine wpAny_named (i := 28) (v := undef) rfl (by kernel_rfl) (by kernel_rfl) (by kernel_rfl) (fun _ _ _ h => h) (Or.inr ⟨by rfl, rfl⟩) (fun K hK => ?_)
          go_simp
          refine hK _ _ ?_
          clear hK K
          refine wpAny_named (i := 29) (v := ?_) rfl (by kernel_rfl) (by kernel_rfl) (by kernel_rfl) (fun _ _ _ h => h) (Or.inl ⟨by rfl, ?_⟩) (fun K hK => ?_)
          rotate_left
          · intro w; go_simp; try with_reducible rfl
          go_simp
          refine hK _ _ ?_
          clear hK K
          refine wpAny_done (by kernel_rfl) ?_ _
          go_wp2
          go_ret
          exact ⟨⟨_, rfl⟩, hw2d⟩
        · skip
          refine wpAny_named (i := 3) (v := ?_) rfl (by kernel_rfl) (by kernel_rfl) (by kernel_rfl) (fun _ _ _ h => h) (Or.inl ⟨by rfl, ?_⟩) (fun K hK => ?_)
          rotate_left
          · intro w; go_simp; try with_reducible rfl
          go_simp
          refine hK _ _ ?_
          clear hK K
          refine wpAny_named (i := 4) (v := ?_) rfl (by kernel_rfl) (by kernel_rfl) (by kernel_rfl) (fun _ _ _ h => h) (Or.inl ⟨by rfl, ?_⟩) (fun K hK => ?_)
          rotate_left
          · intro w; go_simp; try with_reducible rfl
          go_simp
          refine hK _ _ ?_
          clear hK K
          refine wpAny_named (i := 5) (v := ?_) rfl (by kernel_rfl) (by kernel_rfl) (by kernel_rfl) (fun _ _ _ h => h) (Or.inl ⟨by rfl, ?_⟩) (fun K hK => ?_)
          rotate_left
          · intro w; go_simp; try with_reducible rfl
          go_simp
          refine hK _ _ ?_
          clear hK K
          refine wpAny_ready (rs := [6]) (by kernel_rfl) (by simp) ?_
          refine AllReady.cons rfl (fun K hK => ?_) AllReady.nil
          go_simp
          refine hK _ _ ?_
          clear hK K
          refine wpAny_ready (rs := [7]) (by kernel_rfl) (by simp) ?_
          refine AllReady.cons rfl (fun K hK => ?_) AllReady.nil
          go_simp
          go_wp2_with fail
          refine valueRight_any.mono ?_
          rintro e v2 ⟨⟨y, rfl⟩, hv2⟩
          have hx2 := hx1.below hv2
          obtain ⟨l2, d0, d1, d2, d3, d4⟩ := id hx2
          have hw3 : Below w.heap.size w v2 := hw2d.trans (hv2.mono hz1)
          refine hK _ _ ?_
          clear hK K
          cases y
          · skip
            refine wpAny_named (i := 8) (v := ?_) rfl (by kernel_rfl) (by kernel_rfl) (by kernel_rfl) (fun _ _ _ h => h) (Or.inl ⟨by rfl, ?_⟩) (fun K hK => ?_)
            rotate_left
            · intro w; go_simp; try with_reducible rfl
            go_simp
            refine hK _ _ ?_
            clear hK K
            refine wpAny_named (i := 9) (v := ?_) rfl (by kernel_rfl) (by kernel_rfl) (by kernel_rfl) (fun _ _ _ h => h) (Or.inl ⟨by rfl, ?_⟩) (fun K hK => ?_)
            rotate_left
            · intro w; go_simp; try with_reducible rfl
            go_simp
            refine hK _ _ ?_
            clear hK K
            refine wpAny_named (i := 10) (v := ?_) rfl (by kernel_rfl) (by kernel_rfl) (by kernel_rfl) (fun _ _ _ h => h) (Or.inl ⟨by rfl, ?_⟩) (fun K hK => ?_)
            rotate_left
            · intro w; go_simp; try with_reducible rfl
            go_simp
            refine hK _ _ ?_
            clear hK K
            refine wpAny_named (i := 11) (v := undef) rfl (by kernel_rfl) (by kernel_rfl) (by kernel_rfl) (fun _ _ _ h => h) (Or.inr ⟨by rfl, rfl⟩) (fun K hK => ?_)
            go_simp
            refine hK _ _ ?_
            clear hK K
            refine wpAny_named (i := 12) (v := undef) rfl (by kernel_rfl) (by kernel_rfl) (by kernel_rfl) (fun _ _ _ h => h) (Or.inr ⟨by rfl, rfl⟩) (fun K hK => ?_)
            go_simp
            refine hK _ _ ?_
            clear hK K
            refine wpAny_named (i := 13) (v := undef) rfl (by kernel_rfl) (by kernel_rfl) (by kernel_rfl) (fun _ _ _ h => h) (Or.inr ⟨by rfl, rfl⟩) (fun K hK => ?_)
            go_simp
            refine hK _ _ ?_
            clear hK K
            refine wpAny_named (i := 14) (v := ?_) rfl (by kernel_rfl) (by kernel_rfl) (by kernel_rfl) (fun _ _ _ h => h) (Or.inl ⟨by rfl, ?_⟩) (fun K hK => ?_)
            rotate_left
            · intro w; go_simp; try with_reducible rfl
            go_simp
            refine hK _ _ ?_
            clear hK K
            refine wpAny_named (i := 15) (v := ?_) rfl (by kernel_rfl) (by kernel_rfl) (by kernel_rfl) (fun _ _ _ h => h) (Or.inl ⟨by rfl, ?_⟩) (fun K hK => ?_)
            rotate_left
            · intro w; go_simp; try with_reducible rfl
            go_simp
            refine hK _ _ ?_
            clear hK K
            refine wpAny_named (i := 16) (v := undef) rfl (by kernel_rfl) (by kernel_rfl) (by kernel_rfl) (fun _ _ _ h => h) (Or.inr ⟨by rfl, rfl⟩) (fun K hK => ?_)
            go_simp
            refine hK _ _ ?_
            clear hK K
            refine wpAny_named (i := 17) (v := undef) rfl (by kernel_rfl) (by kernel_rfl) (by kernel_rfl) (fun _ _ _ h => h) (Or.inr ⟨by rfl, rfl⟩) (fun K hK => ?_)
            go_simp
            refine hK _ _ ?_
            clear hK K
            refine wpAny_named (i := 18) (v := undef) rfl (by kernel_rfl) (by kernel_rfl) (by kernel_rfl) (fun _ _ _ h => h) (Or.inr ⟨by rfl, rfl⟩) (fun K hK => ?_)
            go_simp
            refine hK _ _ ?_
            clear hK K
            refine wpAny_named (i := 19) (v := undef) rfl (by kernel_rfl) (by kernel_rfl) (by kernel_rfl) (fun _ _ _ h => h) (Or.inr ⟨by rfl, rfl⟩) (fun K hK => ?_)
            go_simp
            refine hK _ _ ?_
            clear hK K
            refine wpAny_named (i := 20) (v := undef) rfl (by kernel_rfl) (by kernel_rfl) (by kernel_rfl) (fun _ _ _ h => h) (Or.inr ⟨by rfl, rfl⟩) (fun K hK => ?_)
            go_simp
            refine hK _ _ ?_
            clear hK K
            refine wpAny_named (i := 21) (v := undef) rfl (by kernel_rfl) (by kernel_rfl) (by kernel_rfl) (fun _ _ _ h => h) (Or.inr ⟨by rfl, rfl⟩) (fun K hK => ?_)
            go_simp
            refine hK _ _ ?_
            clear hK K
            refine wpAny_named (i := 22) (v := undef) rfl (by kernel_rfl) (by kernel_rfl) (by kernel_rfl) (fun _ _ _ h => h) (Or.inr ⟨by rfl, rfl⟩) (fun K hK => ?_)
            go_simp
            refine hK _ _ ?_
            clear hK K
            refine wpAny_named (i := 23) (v := undef) rfl (by kernel_rfl) (by kernel_rfl) (by kernel_rfl) (fun _ _ _ h => h) (Or.inr ⟨by rfl, rfl⟩) (fun K hK => ?_)
            go_simp
            refine hK _ _ ?_
            clear hK K
            refine wpAny_named (i := 24) (v := undef) rfl (by kernel_rfl) (by kernel_rfl) (by kernel_rfl) (fun _ _ _ h => h) (Or.inr ⟨by rfl, rfl⟩) (fun K hK => ?_)
            go_simp
            refine hK _ _ ?_
            clear hK K
            refine wpAny_named (i := 25) (v := undef) rfl (by kernel_rfl) (by kernel_rfl) (by kernel_rfl) (fun _ _ _ h => h) (Or.inr ⟨by rfl, rfl⟩) (fun K hK => ?_)
            go_simp
            refine hK _ _ ?_
            clear hK K
            refine wpAny_named (i := 26) (v := undef) rfl (by kernel_rfl) (by kernel_rfl) (by kernel_rfl) (fun _ _ _ h => h) (Or.inr ⟨by rfl, rfl⟩) (fun K hK => ?_)
            go_simp
            refine hK _ _ ?_
            clear hK K
            refine wpAny_named (i := 27) (v := undef) rfl (by kernel_rfl) (by kernel_rfl) (by kernel_rfl) (fun _ _ _ h => h) (Or.inr ⟨by rfl, rfl⟩) (fun K hK => ?_)
            go_simp
            refine hK _ _ ?_
            clear hK K
            refine wpAny_named (i := 28) (v := undef) rfl (by kernel_rfl) (by kernel_rfl) (by kernel_rfl) (fun _ _ _ h => h) (Or.inr ⟨by rfl, rfl⟩) (fun K hK => ?_)
            go_simp
            refine hK _ _ ?_
            clear hK K
            refine wpAny_named (i := 29) (v := ?_) rfl (by kernel_rfl) (by kernel_rfl) (by kernel_rfl) (fun _ _ _ h => h) (Or.inl ⟨by rfl, ?_⟩) (fun K hK => ?_)
            rotate_left
            · intro w; go_simp; try with_reducible rfl
            go_simp
            refine hK _ _ ?_
            clear hK K
            refine wpAny_done (by kernel_rfl) ?_ _
            go_wp2
            go_ret
            exact ⟨⟨_, rfl⟩, hw3⟩
          · skip
            refine wpAny_named (i := 8) (v := ?_) rfl (by kernel_rfl) (by kernel_rfl) (by kernel_rfl) (fun _ _ _ h => h) (Or.inl ⟨by rfl, ?_⟩) (fun K hK => ?_)
            rotate_left
            · intro w; go_simp; try with_reducible rfl
            go_simp
            refine hK _ _ ?_
            clear hK K
            refine wpAny_named (i := 9) (v := ?_) rfl (by kernel_rfl) (by kernel_rfl) (by kernel_rfl) (fun _ _ _ h => h) (Or.inl ⟨by rfl, ?_⟩) (fun K hK => ?_)
            rotate_left
            · intro w; go_simp; try with_reducible rfl
            go_simp
            refine hK _ _ ?_
            clear hK K
            refine wpAny_named (i := 10) (v := ?_) rfl (by kernel_rfl) (by kernel_rfl) (by kernel_rfl) (fun _ _ _ h => h) (Or.inl ⟨by rfl, ?_⟩) (fun K hK => ?_)
            rotate_left
            · intro w; go_simp; try with_reducible rfl
            go_simp
            refine hK _ _ ?_
            clear hK K
            refine wpAny_named (i := 11) (v := ?_) rfl (by kernel_rfl) (by kernel_rfl) (by kernel_rfl) (fun _ _ _ h => h) (Or.inl ⟨by rfl, ?_⟩) (fun K hK => ?_)
            rotate_left
            · intro w; go_simp; try with_reducible rfl
            go_simp
            refine hK _ _ ?_
            clear hK K
            refine wpAny_ready (rs := [12]) (by kernel_rfl) (by simp) ?_
            refine AllReady.cons rfl (fun K hK => ?_) AllReady.nil
            go_simp
            refine hK _ _ ?_
            clear hK K
            refine wpAny_named (i := 13) (v := ?_) rfl (by kernel_rfl) (by kernel_rfl) (by kernel_rfl) (fun _ _ _ h => h) (Or.inl ⟨by rfl, ?_⟩) (fun K hK => ?_)
            rotate_left
            · intro w; go_simp; try with_reducible rfl
            go_simp
            refine hK _ _ ?_
            clear hK K
            generalize decide ((f k).seq < 1) = q
            cases q
            · skip
              refine wpAny_named (i := 14) (v := ?_) rfl (by kernel_rfl) (by kernel_rfl) (by kernel_rfl) (fun _ _ _ h => h) (Or.inl ⟨by rfl, ?_⟩) (fun K hK => ?_)
              rotate_left
              · intro w; go_simp; try with_reducible rfl
              go_simp
              refine hK _ _ ?_
              clear hK K
              refine wpAny_named (i := 15) (v := ?_) rfl (by kernel_rfl) (by kernel_rfl) (by kernel_rfl) (fun _ _ _ h => h) (Or.inl ⟨by rfl, ?_⟩) (fun K hK => ?_)
              rotate_left
              · intro w; go_simp; try with_reducible rfl
              go_simp
              refine hK _ _ ?_
              clear hK K
              refine wpAny_named (i := 16) (v := ?_) rfl (by kernel_rfl) (by kernel_rfl) (by kernel_rfl) (fun _ _ _ h => h) (Or.inl ⟨by rfl, ?_⟩) (fun K hK => ?_)
              rotate_left
              · intro w; go_simp; try with_reducible rfl
              go_simp
              refine hK _ _ ?_
              clear hK K
              refine wpAny_named (i := 17) (v := ?_) rfl (by kernel_rfl) (by kernel_rfl) (by kernel_rfl) (fun _ _ _ h => h) (Or.inl ⟨by rfl, ?_⟩) (fun K hK => ?_)
              rotate_left
              · intro w; go_simp; try with_reducible rfl
              go_simp
              refine hK _ _ ?_
              clear hK K
              generalize hq2 : decide (0 < k) = q2
              cases q2
              · skip
                refine wpAny_named (i := 18) (v := ?_) rfl (by kernel_rfl) (by kernel_rfl) (by kernel_rfl) (fun _ _ _ h => h) (Or.inl ⟨by rfl, ?_⟩) (fun K hK => ?_)
                rotate_left
                · intro w; go_simp; try with_reducible rfl
                go_simp
                refine hK _ _ ?_
                clear hK K
                refine wpAny_named (i := 19) (v := undef) rfl (by kernel_rfl) (by kernel_rfl) (by kernel_rfl) (fun _ _ _ h => h) (Or.inr ⟨by rfl, rfl⟩) (fun K hK => ?_)
                go_simp
                refine hK _ _ ?_
                clear hK K
                refine wpAny_named (i := 20) (v := undef) rfl (by kernel_rfl) (by kernel_rfl) (by kernel_rfl) (fun _ _ _ h => h) (Or.inr ⟨by rfl, rfl⟩) (fun K hK => ?_)
                go_simp
                refine hK _ _ ?_
                clear hK K
                refine wpAny_named (i := 21) (v := undef) rfl (by kernel_rfl) (by kernel_rfl) (by kernel_rfl) (fun _ _ _ h => h) (Or.inr ⟨by rfl, rfl⟩) (fun K hK => ?_)
                go_simp
                refine hK _ _ ?_
                clear hK K
                refine wpAny_named (i := 22) (v := undef) rfl (by kernel_rfl) (by kernel_rfl) (by kernel_rfl) (fun _ _ _ h => h) (Or.inr ⟨by rfl, rfl⟩) (fun K hK => ?_)
                go_simp
                refine hK _ _ ?_
                clear hK K
                refine wpAny_named (i := 23) (v := undef) rfl (by kernel_rfl) (by kernel_rfl) (by kernel_rfl) (fun _ _ _ h => h) (Or.inr ⟨by rfl, rfl⟩) (fun K hK => ?_)
                go_simp
                refine hK _ _ ?_
                clear hK K
                refine wpAny_named (i := 24) (v := undef) rfl (by kernel_rfl) (by kernel_rfl) (by kernel_rfl) (fun _ _ _ h => h) (Or.inr ⟨by rfl, rfl⟩) (fun K hK => ?_)
                go_simp
                refine hK _ _ ?_
                clear hK K
                refine wpAny_named (i := 25) (v := undef) rfl (by kernel_rfl) (by kernel_rfl) (by kernel_rfl) (fun _ _ _ h => h) (Or.inr ⟨by rfl, rfl⟩) (fun K hK => ?_)
                go_simp
                refine hK _ _ ?_
                clear hK K
                refine wpAny_named (i := 26) (v := undef) rfl (by kernel_rfl) (by kernel_rfl) (by kernel_rfl) (fun _ _ _ h => h) (Or.inr ⟨by rfl, rfl⟩) (fun K hK => ?_)
                go_simp
                refine hK _ _ ?_
                clear hK K
                refine wpAny_named (i := 27) (v := undef) rfl (by kernel_rfl) (by kernel_rfl) (by kernel_rfl) (fun _ _ _ h => h) (Or.inr ⟨by rfl, rfl⟩) (fun K hK => ?_)
                go_simp
                refine hK _ _ ?_
                clear hK K
                refine wpAny_named (i := 28) (v := ?_) rfl (by kernel_rfl) (by kernel_rfl) (by kernel_rfl) (fun _ _ _ h => h) (Or.inl ⟨by rfl, ?_⟩) (fun K hK => ?_)
                rotate_left
                · intro w; go_simp; try with_reducible rfl
                go_simp
                refine hK _ _ ?_
                clear hK K
                refine wpAny_named (i := 29) (v := ?_) rfl (by kernel_rfl) (by kernel_rfl) (by kernel_rfl) (fun _ _ _ h => h) (Or.inl ⟨by rfl, ?_⟩) (fun K hK => ?_)
                rotate_left
                · intro w; go_simp; try with_reducible rfl
                go_simp
                refine hK _ _ ?_
                clear hK K
                refine wpAny_done (by kernel_rfl) ?_ _
                go_wp2
                exact ⟨⟨k + 1, by omega, by go_num, hw3⟩, by simp [intOf]; omega⟩
              · skip
                have hk0 : 0 < k := by exact of_decide_eq_true hq2
                obtain ⟨j, rfl⟩ : ∃ j, k = j + 1 := ⟨k - 1, by omega⟩
                have e0 : v2.cell? ⟨b, o + j * 5, none⟩ = some (.string (f j).key) := by rw [hw3.cell (p := ⟨b, _, none⟩) hbw]; exact (hc j (by omega)).1
                obtain ⟨q3, hq3⟩ := stringGe 9 (f j).key (f (j + 1)).key
                refine wpAny_named (i := 18) (v := ?_) rfl (by kernel_rfl) (by kernel_rfl) (by kernel_rfl) (fun _ _ _ h => h) (Or.inl ⟨by rfl, ?_⟩) (fun K hK => ?_)
                rotate_left
                · intro w; go_simp; try with_reducible rfl
                go_simp
                refine hK _ _ ?_
                clear hK K
                refine wpAny_named (i := 19) (v := ?_) rfl (by kernel_rfl) (by kernel_rfl) (by kernel_rfl) (fun _ _ _ h => h) (Or.inl ⟨by rfl, ?_⟩) (fun K hK => ?_)
                rotate_left
                · intro w; go_simp; try with_reducible rfl
                go_simp
                refine hK _ _ ?_
                clear hK K
                refine wpAny_named (i := 20) (v := ?_) rfl (by kernel_rfl) (by kernel_rfl) (by kernel_rfl) (fun _ _ _ h => h) (Or.inl ⟨by rfl, ?_⟩) (fun K hK => ?_)
                rotate_left
                · intro w; go_simp; try with_reducible rfl
                go_simp
                refine hK _ _ ?_
                clear hK K
                refine wpAny_named (i := 21) (v := .int .i64 (j : Int)) rfl (by kernel_rfl) (by kernel_rfl) (by kernel_rfl) (fun _ _ _ h => h) (Or.inl ⟨by rfl, ?_⟩) (fun K hK => ?_)
                · intro w; go_simp; rw [IntKind.wrap_i64]; omega
                go_simp
                refine hK _ _ ?_
                clear hK K
                refine wpAny_named (i := 22) (v := .pointer (some ⟨b, o + j * 5, none⟩)) rfl (by kernel_rfl) (by kernel_rfl) (by kernel_rfl) (fun _ _ _ h => h) (Or.inl ⟨by rfl, ?_⟩) (fun K hK => ?_)
                · intro w; go_simp; intro hh; omega
                go_simp
                refine hK _ _ ?_
                clear hK K
                refine wpAny_named (i := 23) (v := ?_) rfl (by kernel_rfl) (by kernel_rfl) (by kernel_rfl) (fun _ _ _ h => h) (Or.inl ⟨by rfl, ?_⟩) (fun K hK => ?_)
                rotate_left
                · intro w; go_simp; try with_reducible rfl
                go_simp
                refine hK _ _ ?_
                clear hK K
                refine wpAny_named (i := 25) (v := ?_) rfl (by kernel_rfl) (by kernel_rfl) (by kernel_rfl) (fun _ _ _ h => h) (Or.inl ⟨by rfl, ?_⟩) (fun K hK => ?_)
                rotate_left
                · intro w; go_simp; try with_reducible rfl
                go_simp
                refine hK _ _ ?_
                clear hK K
                refine wpAny_ready (rs := [24, 26]) (by kernel_rfl) (by simp) ?_
                refine AllReady.cons rfl (fun K hK => ?_) (AllReady.cons rfl (fun K hK => ?_) AllReady.nil)
                · go_simp
                  refine hK _ _ ?_
                  clear hK K
                  refine wpAny_ready (rs := [26]) (by kernel_rfl) (by simp) ?_
                  refine AllReady.cons rfl (fun K hK => ?_) AllReady.nil
                  go_simp
                  refine hK _ _ ?_
                  clear hK K
                  refine wpAny_named (i := 27) (v := .bool q3) rfl (by kernel_rfl) (by kernel_rfl) (by kernel_rfl) (fun _ _ _ h => h) (Or.inl ⟨by rfl, ?_⟩) (fun K hK => ?_)
                  · intro w; go_simp; try rw [hq3]
                  go_simp
                  refine hK _ _ ?_
                  clear hK K
                  cases q3
                  · skip
                    refine wpAny_named (i := 28) (v := ?_) rfl (by kernel_rfl) (by kernel_rfl) (by kernel_rfl) (fun _ _ _ h => h) (Or.inl ⟨by rfl, ?_⟩) (fun K hK => ?_)
                    rotate_left
                    · intro w; go_simp; try with_reducible rfl
                    go_simp
                    refine hK _ _ ?_
                    clear hK K
                    refine wpAny_named (i := 29) (v := ?_) rfl (by kernel_rfl) (by kernel_rfl) (by kernel_rfl) (fun _ _ _ h => h) (Or.inl ⟨by rfl, ?_⟩) (fun K hK => ?_)
                    rotate_left
                    · intro w; go_simp; try with_reducible rfl
                    go_simp
                    refine hK _ _ ?_
                    clear hK K
                    refine wpAny_done (by kernel_rfl) ?_ _
                    go_wp2
                    exact ⟨⟨j + 1 + 1, by omega, by go_num, hw3⟩, by simp [intOf]; omega⟩
                  · skip
                    refine wpAny_named (i := 28) (v := ?_) rfl (by kernel_rfl) (by kernel_rfl) (by kernel_rfl) (fun _ _ _ h => h) (Or.inl ⟨by rfl, ?_⟩) (fun K hK => ?_)
                    rotate_left
                    · intro w; go_simp; try with_reducible rfl
                    go_simp
                    refine hK _ _ ?_
                    clear hK K
                    refine wpAny_named (i := 29) (v := ?_) rfl (by kernel_rfl) (by kernel_rfl) (by kernel_rfl) (fun _ _ _ h => h) (Or.inl ⟨by rfl, ?_⟩) (fun K hK => ?_)
                    rotate_left
                    · intro w; go_simp; try with_reducible rfl
                    go_simp
                    refine hK _ _ ?_
                    clear hK K
                    refine wpAny_done (by kernel_rfl) ?_ _
                    go_wp2
                    go_ret
                    exact ⟨⟨_, rfl⟩, hw3⟩
                · go_simp
                  refine hK _ _ ?_
                  clear hK K
                  refine wpAny_ready (rs := [24]) (by kernel_rfl) (by simp) ?_
                  refine AllReady.cons rfl (fun K hK => ?_) AllReady.nil
                  go_simp
                  refine hK _ _ ?_
                  clear hK K
                  refine wpAny_named (i := 27) (v := .bool q3) rfl (by kernel_rfl) (by kernel_rfl) (by kernel_rfl) (fun _ _ _ h => h) (Or.inl ⟨by rfl, ?_⟩) (fun K hK => ?_)
                  · intro w; go_simp; try rw [hq3]
                  go_simp
                  refine hK _ _ ?_
                  clear hK K
                  cases q3
                  · skip
                    refine wpAny_named (i := 28) (v := ?_) rfl (by kernel_rfl) (by kernel_rfl) (by kernel_rfl) (fun _ _ _ h => h) (Or.inl ⟨by rfl, ?_⟩) (fun K hK => ?_)
                    rotate_left
                    · intro w; go_simp; try with_reducible rfl
                    go_simp
                    refine hK _ _ ?_
                    clear hK K
                    refine wpAny_named (i := 29) (v := ?_) rfl (by kernel_rfl) (by kernel_rfl) (by kernel_rfl) (fun _ _ _ h => h) (Or.inl ⟨by rfl, ?_⟩) (fun K hK => ?_)
                    rotate_left
                    · intro w; go_simp; try with_reducible rfl
                    go_simp
                    refine hK _ _ ?_
                    clear hK K
                    refine wpAny_done (by kernel_rfl) ?_ _
                    go_wp2
                    exact ⟨⟨j + 1 + 1, by omega, by go_num, hw3⟩, by simp [intOf]; omega⟩
                  · skip
                    refine wpAny_named (i := 28) (v := ?_) rfl (by kernel_rfl) (by kernel_rfl) (by kernel_rfl) (fun _ _ _ h => h) (Or.inl ⟨by rfl, ?_⟩) (fun K hK => ?_)
                    rotate_left
                    · intro w; go_simp; try with_reducible rfl
                    go_simp
                    refine hK _ _ ?_
                    clear hK K
                    refine wpAny_named (i := 29) (v := ?_) rfl (by kernel_rfl) (by kernel_rfl) (by kernel_rfl) (fun _ _ _ h => h) (Or.inl ⟨by rfl, ?_⟩) (fun K hK => ?_)
                    rotate_left
                    · intro w; go_simp; try with_reducible rfl
                    go_simp
                    refine hK _ _ ?_
                    clear hK K
                    refine wpAny_done (by kernel_rfl) ?_ _
                    go_wp2
                    go_ret
                    exact ⟨⟨_, rfl⟩, hw3⟩
            · skip
              refine wpAny_named (i := 14) (v := ?_) rfl (by kernel_rfl) (by kernel_rfl) (by kernel_rfl) (fun _ _ _ h => h) (Or.inl ⟨by rfl, ?_⟩) (fun K hK => ?_)
              rotate_left
              · intro w; go_simp; try with_reducible rfl
              go_simp
              refine hK _ _ ?_
              clear hK K
              refine wpAny_named (i := 15) (v := ?_) rfl (by kernel_rfl) (by kernel_rfl) (by kernel_rfl) (fun _ _ _ h => h) (Or.inl ⟨by rfl, ?_⟩) (fun K hK => ?_)
              rotate_left
              · intro w; go_simp; try with_reducible rfl
              go_simp
              refine hK _ _ ?_
              clear hK K
              refine wpAny_named (i := 16) (v := undef) rfl (by kernel_rfl) (by kernel_rfl) (by kernel_rfl) (fun _ _ _ h => h) (Or.inr ⟨by rfl, rfl⟩) (fun K hK => ?_)
              go_simp
              refine hK _ _ ?_
              clear hK K
              refine wpAny_named (i := 17) (v := undef) rfl (by kernel_rfl) (by kernel_rfl) (by kernel_rfl) (fun _ _ _ h => h) (Or.inr ⟨by rfl, rfl⟩) (fun K hK => ?_)
              go_simp
              refine hK _ _ ?_
              clear hK K
              refine wpAny_named (i := 18) (v := undef) rfl (by kernel_rfl) (by kernel_rfl) (by kernel_rfl) (fun _ _ _ h => h) (Or.inr ⟨by rfl, rfl⟩) (fun K hK => ?_)
              go_simp
              refine hK _ _ ?_
              clear hK K
              refine wpAny_named (i := 19) (v := undef) rfl (by kernel_rfl) (by kernel_rfl) (by kernel_rfl) (fun _ _ _ h => h) (Or.inr ⟨by rfl, rfl⟩) (fun K hK => ?_)
              go_simp
              refine hK _ _ ?_
              clear hK K
              refine wpAny_named (i := 20) (v := undef) rfl (by kernel_rfl) (by kernel_rfl) (by kernel_rfl) (fun _ _ _ h => h) (Or.inr ⟨by rfl, rfl⟩) (fun K hK => ?_)
              go_simp
              refine hK _ _ ?_
              clear hK K
              refine wpAny_named (i := 21) (v := undef) rfl (by kernel_rfl) (by kernel_rfl) (by kernel_rfl) (fun _ _ _ h => h) (Or.inr ⟨by rfl, rfl⟩) (fun K hK => ?_)
              go_simp
              refine hK _ _ ?_
              clear hK K
              refine wpAny_named (i := 22) (v := undef) rfl (by kernel_rfl) (by kernel_rfl) (by kernel_rfl) (fun _ _ _ h => h) (Or.inr ⟨by rfl, rfl⟩) (fun K hK => ?_)
              go_simp
              refine hK _ _ ?_
              clear hK K
              refine wpAny_named (i := 23) (v := undef) rfl (by kernel_rfl) (by kernel_rfl) (by kernel_rfl) (fun _ _ _ h => h) (Or.inr ⟨by rfl, rfl⟩) (fun K hK => ?_)
              go_simp
              refine hK _ _ ?_
              clear hK K
              refine wpAny_named (i := 24) (v := undef) rfl (by kernel_rfl) (by kernel_rfl) (by kernel_rfl) (fun _ _ _ h => h) (Or.inr ⟨by rfl, rfl⟩) (fun K hK => ?_)
              go_simp
              refine hK _ _ ?_
              clear hK K
              refine wpAny_named (i := 25) (v := undef) rfl (by kernel_rfl) (by kernel_rfl) (by kernel_rfl) (fun _ _ _ h => h) (Or.inr ⟨by rfl, rfl⟩) (fun K hK => ?_)
              go_simp
              refine hK _ _ ?_
              clear hK K
              refine wpAny_named (i := 26) (v := undef) rfl (by kernel_rfl) (by kernel_rfl) (by kernel_rfl) (fun _ _ _ h => h) (Or.inr ⟨by rfl, rfl⟩) (fun K hK => ?_)
              go_simp
              refine hK _ _ ?_
              clear hK K
              refine wpAny_named (i := 27) (v := undef) rfl (by kernel_rfl) (by kernel_rfl) (by kernel_rfl) (fun _ _ _ h => h) (Or.inr ⟨by rfl, rfl⟩) (fun K hK => ?_)
              go_simp
              refine hK _ _ ?_
              clear hK K
              refine wpAny_named (i := 28) (v := undef) rfl (by kernel_rfl) (by kernel_rfl) (by kernel_rfl) (fun _ _ _ h => h) (Or.inr ⟨by rfl, rfl⟩) (fun K hK => ?_)
              go_simp
              refine hK _ _ ?_
              clear hK K
              refine wpAny_named (i := 29) (v := ?_) rfl (by kernel_rfl) (by kernel_rfl) (by kernel_rfl) (fun _ _ _ h => h) (Or.inl ⟨by rfl, ?_⟩) (fun K hK => ?_)
              rotate_left
              · intro w; go_simp; try with_reducible rfl
              go_simp
              refine hK _ _ ?_
              clear hK K
              refine wpAny_done (by kernel_rfl) ?_ _
              go_wp2
              go_ret
              exact ⟨⟨_, rfl⟩, hw3⟩
      · go_wp2
        go_ret
        exact ⟨⟨_, rfl⟩, hw⟩
end Go.Ev
