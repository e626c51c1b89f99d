/- No vault is opened on no world, nor on a world of one extent. -/
import Derived.Test.YtkgaejjkmkfobaaGreatDoorDesk2
import Derived.Deep.RegionWith
namespace Go.Ev
open Go.Proofs Go.RowKit
set_option maxRecDepth 100000
set_option linter.unusedVariables false

/-- a world of one extent -/
structure OneExtent (w : World) (g : Nat) : Prop where
  lt : g < w.heap.size
  c1 : w.cell? ⟨g, 1, none⟩ = some (.int .i64 4)
  c2 : ∃ a c, w.cell? ⟨g, 2, none⟩ = some (.slice a 1 c)

theorem OneExtent.below {w w' : World} {g : Nat} (h : OneExtent w g) (hB : Below w.heap.size w w') : OneExtent w' g := by
  obtain ⟨l, c1, a, c, c2⟩ := h
  exact ⟨Nat.lt_of_lt_of_le l hB.size, by rw [hB.cell l]; exact c1, a, c, by rw [hB.cell l]; exact c2⟩

theorem extents_any {w : World} {g : Nat} (h : OneExtent w g) : Calls Tryz.prog 168 #[.pointer (some ⟨g, 0, none⟩)] w fun e w' => e = .returned (.int .i64 1) ∧ w' = w := by
  obtain ⟨l, c1, a, c, c2⟩ := h
  go_enter Tryz.func168, Tryz.ntmps168
  go_wp2
  go_ret
  exact ⟨rfl, rfl⟩

section
variable {P : Program} {md : Region.Mode} {ops : Array Oper} {Q : Exit → Act → World → Prop}
theorem wpAny_named {i : Nat} {oi : Oper} {v : Value} {fuel : Nat} {listed : Array Bool} {a : Act} {w : World} (hi : ops[i]? = some oi)
    (hs : Region.noSelect ops = true) (hf : Region.free md ops listed i = true) (hr : (Region.ready md ops listed).contains i = true)
    (hQ : ∀ c a w, Q (.panic c) (a.put oi.dst v) w → Q (.panic c) a w) (hy : Yields P ops oi v a)
    (h : ∀ K : Act → World → Prop, (∀ a w, wpAny P md ops Q fuel (listed.setIfInBounds i true) a w → K a w) → K (a.put oi.dst v) w) : wpAny P md ops Q (fuel + 1) listed a w :=
  wpAny_take hi hs hf hr hQ hy (h _ fun _ _ h => h)
end

theorem one_lt {len : Nat} (h : len ≤ 2305843009213693951) : 1 < IntKind.i64.wrap (2 + IntKind.i64.wrap (2 * (len : Int))) := by
  rw [IntKind.wrap_i64, IntKind.wrap_i64]
  omega

theorem vaultOpen_nil {p s n : Int} {ad : Option Addr} {len cap : Nat} {w : World} :
    Calls Tryz.prog 122 #[.agg #[.int .i64 p, .int .i64 s, .int .i64 n, .slice ad len cap], .pointer none] w fun e w' => e = .returned (.tuple #[.pointer none, .int .i64 2]) ∧ Below w.heap.size w w' := by
  go_enter Tryz.func122, Tryz.ntmps122
  go_wp2
  go_ret2
  exact ⟨rfl, (Below.refl _ _).alloc (Nat.le_refl _) _⟩

set_option maxHeartbeats 4000000 in
theorem vaultOpen_one {B : Nat} {p s n : Int} {ad : Option Addr} {len cap g : Nat} {w : World} (h : Rooms B w ad len) (hB : B ≤ w.heap.size) (hl : len ≤ cap) (hlen : len ≤ 2305843009213693951) (hg : OneExtent w g) :
    Calls Tryz.prog 122 #[.agg #[.int .i64 p, .int .i64 s, .int .i64 n, .slice ad len cap], .pointer (some ⟨g, 0, none⟩)] w fun e w' => e = .returned (.tuple #[.pointer none, .int .i64 1]) ∧ Below w.heap.size w w' := by
  have hb := (Below.refl w.heap.size w).alloc (Nat.le_refl _) (.cells #[.int .i64 p, .int .i64 s, .int .i64 n, .slice ad len cap] 50)
  have hx := SetupBox.new w p s n ad len cap 50
  have h1 := h.below (hb.mono hB) hB
  have hg1 := hg.below hb
  generalize hW1 : w.alloc (.cells #[.int .i64 p, .int .i64 s, .int .i64 n, .slice ad len cap] 50) = W1 at hb hx h1 hg1
  have hs1 : w.heap.size ≤ W1.heap.size := hb.size
  go_enter Tryz.func122, Tryz.ntmps122
  go_wp2
  clear hW1
  obtain ⟨x0, x1, x2, x3, x4⟩ := id hx
  refine wp_region_any (by kernel_rfl) ?_
  change wpAny _ _ _ _ _ _ _ (World.drew _)
  refine wpAny_ready (rs := [0]) (by kernel_rfl) (by simp) ?_
  refine AllReady.cons rfl (fun K hK => ?_) AllReady.nil
  go_simp
  refine hK _ _ ?_
  clear hK K
  refine wpAny_ready (rs := [1]) (by kernel_rfl) (by simp) ?_
  refine AllReady.cons rfl (fun K hK => ?_) AllReady.nil
  go_simp
  go_wp2_with fail
  refine (vaultRight_any (B := w.heap.size) (h1.below ((Below.refl _ _).drew) (Nat.le_refl _)) hs1 hl).mono ?_
  rintro e w1 ⟨⟨x, rfl⟩, hw1⟩
  refine hK _ _ ?_
  clear hK K
  have hw0 : Below W1.heap.size W1 w1 := ((Below.refl _ _).drew).trans hw1
  have hg2 := hg1.below hw0
  obtain ⟨y0, y1, y2, y3, y4⟩ := hx.below hw0
  have hfin : Below w.heap.size w w1 := hb.trans (hw0.mono hs1)
  have hw0 : Below W1.heap.size W1 w1 := ((Below.refl _ _).drew).trans hw1
  have hg2 := hg1.below hw0
  obtain ⟨y0, y1, y2, y3, y4⟩ := hx.below hw0
  have hfin : Below w.heap.size w w1 := hb.trans (hw0.mono hs1)
  have hw0 : Below W1.heap.size W1 w1 := ((Below.refl _ _).drew).trans hw1
  have hg2 := hg1.below hw0
  obtain ⟨y0, y1, y2, y3, y4⟩ := hx.below hw0
  have hfin : Below w.heap.size w w1 := hb.trans (hw0.mono hs1)
  cases x
  · skip
    refine wpAny_named (i := 2) (v := ?_) rfl (by kernel_rfl) (by kernel_rfl) (by kernel_rfl) (fun _ _ _ h => h) (Or.inl ⟨by rfl, ?_⟩) (fun K hK => ?_)
    rotate_left
    · intro w; go_simp; try with_reducible rfl
    go_simp
    refine hK _ _ ?_
    clear hK K
    refine wpAny_named (i := 3) (v := ?_) rfl (by kernel_rfl) (by kernel_rfl) (by kernel_rfl) (fun _ _ _ h => h) (Or.inl ⟨by rfl, ?_⟩) (fun K hK => ?_)
    rotate_left
    · intro w; go_simp; try with_reducible rfl
    go_simp
    refine hK _ _ ?_
    clear hK K
    refine wpAny_named (i := 4) (v := undef) rfl (by kernel_rfl) (by kernel_rfl) (by kernel_rfl) (fun _ _ _ h => h) (Or.inr ⟨by rfl, rfl⟩) (fun K hK => ?_)
    go_simp
    refine hK _ _ ?_
    clear hK K
    refine wpAny_named (i := 5) (v := undef) rfl (by kernel_rfl) (by kernel_rfl) (by kernel_rfl) (fun _ _ _ h => h) (Or.inr ⟨by rfl, rfl⟩) (fun K hK => ?_)
    go_simp
    refine hK _ _ ?_
    clear hK K
    refine wpAny_named (i := 6) (v := undef) rfl (by kernel_rfl) (by kernel_rfl) (by kernel_rfl) (fun _ _ _ h => h) (Or.inr ⟨by rfl, rfl⟩) (fun K hK => ?_)
    go_simp
    refine hK _ _ ?_
    clear hK K
    refine wpAny_named (i := 7) (v := undef) rfl (by kernel_rfl) (by kernel_rfl) (by kernel_rfl) (fun _ _ _ h => h) (Or.inr ⟨by rfl, rfl⟩) (fun K hK => ?_)
    go_simp
    refine hK _ _ ?_
    clear hK K
    refine wpAny_named (i := 8) (v := undef) rfl (by kernel_rfl) (by kernel_rfl) (by kernel_rfl) (fun _ _ _ h => h) (Or.inr ⟨by rfl, rfl⟩) (fun K hK => ?_)
    go_simp
    refine hK _ _ ?_
    clear hK K
    refine wpAny_named (i := 9) (v := undef) rfl (by kernel_rfl) (by kernel_rfl) (by kernel_rfl) (fun _ _ _ h => h) (Or.inr ⟨by rfl, rfl⟩) (fun K hK => ?_)
    go_simp
    refine hK _ _ ?_
    clear hK K
    refine wpAny_named (i := 10) (v := undef) rfl (by kernel_rfl) (by kernel_rfl) (by kernel_rfl) (fun _ _ _ h => h) (Or.inr ⟨by rfl, rfl⟩) (fun K hK => ?_)
    go_simp
    refine hK _ _ ?_
    clear hK K
    refine wpAny_named (i := 11) (v := undef) rfl (by kernel_rfl) (by kernel_rfl) (by kernel_rfl) (fun _ _ _ h => h) (Or.inr ⟨by rfl, rfl⟩) (fun K hK => ?_)
    go_simp
    refine hK _ _ ?_
    clear hK K
    refine wpAny_named (i := 12) (v := ?_) rfl (by kernel_rfl) (by kernel_rfl) (by kernel_rfl) (fun _ _ _ h => h) (Or.inl ⟨by rfl, ?_⟩) (fun K hK => ?_)
    rotate_left
    · intro w; go_simp; try with_reducible rfl
    go_simp
    refine hK _ _ ?_
    clear hK K
    refine wpAny_named (i := 13) (v := ?_) rfl (by kernel_rfl) (by kernel_rfl) (by kernel_rfl) (fun _ _ _ h => h) (Or.inl ⟨by rfl, ?_⟩) (fun K hK => ?_)
    rotate_left
    · intro w; go_simp; try with_reducible rfl
    go_simp
    refine hK _ _ ?_
    clear hK K
    refine wpAny_named (i := 14) (v := undef) rfl (by kernel_rfl) (by kernel_rfl) (by kernel_rfl) (fun _ _ _ h => h) (Or.inr ⟨by rfl, rfl⟩) (fun K hK => ?_)
    go_simp
    refine hK _ _ ?_
    clear hK K
    refine wpAny_named (i := 15) (v := undef) rfl (by kernel_rfl) (by kernel_rfl) (by kernel_rfl) (fun _ _ _ h => h) (Or.inr ⟨by rfl, rfl⟩) (fun K hK => ?_)
    go_simp
    refine hK _ _ ?_
    clear hK K
    refine wpAny_named (i := 16) (v := undef) rfl (by kernel_rfl) (by kernel_rfl) (by kernel_rfl) (fun _ _ _ h => h) (Or.inr ⟨by rfl, rfl⟩) (fun K hK => ?_)
    go_simp
    refine hK _ _ ?_
    clear hK K
    refine wpAny_named (i := 17) (v := undef) rfl (by kernel_rfl) (by kernel_rfl) (by kernel_rfl) (fun _ _ _ h => h) (Or.inr ⟨by rfl, rfl⟩) (fun K hK => ?_)
    go_simp
    refine hK _ _ ?_
    clear hK K
    refine wpAny_named (i := 18) (v := undef) rfl (by kernel_rfl) (by kernel_rfl) (by kernel_rfl) (fun _ _ _ h => h) (Or.inr ⟨by rfl, rfl⟩) (fun K hK => ?_)
    go_simp
    refine hK _ _ ?_
    clear hK K
    refine wpAny_named (i := 19) (v := ?_) rfl (by kernel_rfl) (by kernel_rfl) (by kernel_rfl) (fun _ _ _ h => h) (Or.inl ⟨by rfl, ?_⟩) (fun K hK => ?_)
    rotate_left
    · intro w; go_simp; try with_reducible rfl
    go_simp
    refine hK _ _ ?_
    clear hK K
    refine wpAny_named (i := 20) (v := ?_) rfl (by kernel_rfl) (by kernel_rfl) (by kernel_rfl) (fun _ _ _ h => h) (Or.inl ⟨by rfl, ?_⟩) (fun K hK => ?_)
    rotate_left
    · intro w; go_simp; try with_reducible rfl
    go_simp
    refine hK _ _ ?_
    clear hK K
    refine wpAny_done (by kernel_rfl) ?_ _
    go_wp2
    go_ret2
    exact ⟨rfl, hfin⟩
  · skip
    refine wpAny_named (i := 2) (v := ?_) rfl (by kernel_rfl) (by kernel_rfl) (by kernel_rfl) (fun _ _ _ h => h) (Or.inl ⟨by rfl, ?_⟩) (fun K hK => ?_)
    rotate_left
    · intro w; go_simp; try with_reducible rfl
    go_simp
    refine hK _ _ ?_
    clear hK K
    refine wpAny_named (i := 3) (v := ?_) rfl (by kernel_rfl) (by kernel_rfl) (by kernel_rfl) (fun _ _ _ h => h) (Or.inl ⟨by rfl, ?_⟩) (fun K hK => ?_)
    rotate_left
    · intro w; go_simp; try with_reducible rfl
    go_simp
    refine hK _ _ ?_
    clear hK K
    refine wpAny_named (i := 4) (v := ?_) rfl (by kernel_rfl) (by kernel_rfl) (by kernel_rfl) (fun _ _ _ h => h) (Or.inl ⟨by rfl, ?_⟩) (fun K hK => ?_)
    rotate_left
    · intro w; go_simp; try with_reducible rfl
    go_simp
    refine hK _ _ ?_
    clear hK K
    refine wpAny_named (i := 6) (v := ?_) rfl (by kernel_rfl) (by kernel_rfl) (by kernel_rfl) (fun _ _ _ h => h) (Or.inl ⟨by rfl, ?_⟩) (fun K hK => ?_)
    rotate_left
    · intro w; go_simp; try with_reducible rfl
    go_simp
    refine hK _ _ ?_
    clear hK K
    refine wpAny_ready (rs := [5, 7]) (by kernel_rfl) (by simp) ?_
    refine AllReady.cons rfl (fun K hK => ?_) (AllReady.cons rfl (fun K hK => ?_) AllReady.nil)
    · go_simp
      go_wp2_with fail
      refine (extents_any hg2).mono ?_
      rintro e w2 ⟨rfl, hw2⟩
      subst hw2
      refine hK _ _ ?_
      clear hK K
      refine wpAny_ready (rs := [7]) (by kernel_rfl) (by simp) ?_
      refine AllReady.cons rfl (fun K hK => ?_) AllReady.nil
      go_simp
      refine hK _ _ ?_
      clear hK K
      refine wpAny_named (i := 8) (v := ?_) rfl (by kernel_rfl) (by kernel_rfl) (by kernel_rfl) (fun _ _ _ h => h) (Or.inl ⟨by rfl, ?_⟩) (fun K hK => ?_)
      rotate_left
      · intro w; go_simp; try with_reducible rfl
      go_simp
      refine hK _ _ ?_
      clear hK K
      refine wpAny_named (i := 9) (v := ?_) rfl (by kernel_rfl) (by kernel_rfl) (by kernel_rfl) (fun _ _ _ h => h) (Or.inl ⟨by rfl, ?_⟩) (fun K hK => ?_)
      rotate_left
      · intro w; go_simp; try with_reducible rfl
      go_simp
      refine hK _ _ ?_
      clear hK K
      refine wpAny_named (i := 10) (v := ?_) rfl (by kernel_rfl) (by kernel_rfl) (by kernel_rfl) (fun _ _ _ h => h) (Or.inl ⟨by rfl, ?_⟩) (fun K hK => ?_)
      rotate_left
      · intro w; go_simp; try with_reducible rfl
      go_simp
      refine hK _ _ ?_
      clear hK K
      refine wpAny_named (i := 11) (v := .bool true) rfl (by kernel_rfl) (by kernel_rfl) (by kernel_rfl) (fun _ _ _ h => h) (Or.inl ⟨by rfl, ?_⟩) (fun K hK => ?_)
      · intro w; go_simp; exact one_lt hlen
      go_simp
      refine hK _ _ ?_
      clear hK K
      refine wpAny_named (i := 12) (v := ?_) rfl (by kernel_rfl) (by kernel_rfl) (by kernel_rfl) (fun _ _ _ h => h) (Or.inl ⟨by rfl, ?_⟩) (fun K hK => ?_)
      rotate_left
      · intro w; go_simp; try with_reducible rfl
      go_simp
      refine hK _ _ ?_
      clear hK K
      refine wpAny_named (i := 13) (v := ?_) rfl (by kernel_rfl) (by kernel_rfl) (by kernel_rfl) (fun _ _ _ h => h) (Or.inl ⟨by rfl, ?_⟩) (fun K hK => ?_)
      rotate_left
      · intro w; go_simp; try with_reducible rfl
      go_simp
      refine hK _ _ ?_
      clear hK K
      refine wpAny_named (i := 14) (v := undef) rfl (by kernel_rfl) (by kernel_rfl) (by kernel_rfl) (fun _ _ _ h => h) (Or.inr ⟨by rfl, rfl⟩) (fun K hK => ?_)
      go_simp
      refine hK _ _ ?_
      clear hK K
      refine wpAny_named (i := 15) (v := undef) rfl (by kernel_rfl) (by kernel_rfl) (by kernel_rfl) (fun _ _ _ h => h) (Or.inr ⟨by rfl, rfl⟩) (fun K hK => ?_)
      go_simp
      refine hK _ _ ?_
      clear hK K
      refine wpAny_named (i := 16) (v := undef) rfl (by kernel_rfl) (by kernel_rfl) (by kernel_rfl) (fun _ _ _ h => h) (Or.inr ⟨by rfl, rfl⟩) (fun K hK => ?_)
      go_simp
      refine hK _ _ ?_
      clear hK K
      refine wpAny_named (i := 17) (v := undef) rfl (by kernel_rfl) (by kernel_rfl) (by kernel_rfl) (fun _ _ _ h => h) (Or.inr ⟨by rfl, rfl⟩) (fun K hK => ?_)
      go_simp
      refine hK _ _ ?_
      clear hK K
      refine wpAny_named (i := 18) (v := undef) rfl (by kernel_rfl) (by kernel_rfl) (by kernel_rfl) (fun _ _ _ h => h) (Or.inr ⟨by rfl, rfl⟩) (fun K hK => ?_)
      go_simp
      refine hK _ _ ?_
      clear hK K
      refine wpAny_named (i := 19) (v := ?_) rfl (by kernel_rfl) (by kernel_rfl) (by kernel_rfl) (fun _ _ _ h => h) (Or.inl ⟨by rfl, ?_⟩) (fun K hK => ?_)
      rotate_left
      · intro w; go_simp; try with_reducible rfl
      go_simp
      refine hK _ _ ?_
      clear hK K
      refine wpAny_named (i := 20) (v := ?_) rfl (by kernel_rfl) (by kernel_rfl) (by kernel_rfl) (fun _ _ _ h => h) (Or.inl ⟨by rfl, ?_⟩) (fun K hK => ?_)
      rotate_left
      · intro w; go_simp; try with_reducible rfl
      go_simp
      refine hK _ _ ?_
      clear hK K
      refine wpAny_done (by kernel_rfl) ?_ _
      go_wp2
      go_ret2
      exact ⟨rfl, hfin⟩
    · go_simp
      refine hK _ _ ?_
      clear hK K
      refine wpAny_named (i := 8) (v := ?_) rfl (by kernel_rfl) (by kernel_rfl) (by kernel_rfl) (fun _ _ _ h => h) (Or.inl ⟨by rfl, ?_⟩) (fun K hK => ?_)
      rotate_left
      · intro w; go_simp; try with_reducible rfl
      go_simp
      refine hK _ _ ?_
      clear hK K
      refine wpAny_named (i := 9) (v := ?_) rfl (by kernel_rfl) (by kernel_rfl) (by kernel_rfl) (fun _ _ _ h => h) (Or.inl ⟨by rfl, ?_⟩) (fun K hK => ?_)
      rotate_left
      · intro w; go_simp; try with_reducible rfl
      go_simp
      refine hK _ _ ?_
      clear hK K
      refine wpAny_named (i := 10) (v := ?_) rfl (by kernel_rfl) (by kernel_rfl) (by kernel_rfl) (fun _ _ _ h => h) (Or.inl ⟨by rfl, ?_⟩) (fun K hK => ?_)
      rotate_left
      · intro w; go_simp; try with_reducible rfl
      go_simp
      refine hK _ _ ?_
      clear hK K
      refine wpAny_ready (rs := [5]) (by kernel_rfl) (by simp) ?_
      refine AllReady.cons rfl (fun K hK => ?_) AllReady.nil
      go_simp
      go_wp2_with fail
      refine (extents_any hg2).mono ?_
      rintro e w2 ⟨rfl, hw2⟩
      subst hw2
      refine hK _ _ ?_
      clear hK K
      refine wpAny_named (i := 11) (v := .bool true) rfl (by kernel_rfl) (by kernel_rfl) (by kernel_rfl) (fun _ _ _ h => h) (Or.inl ⟨by rfl, ?_⟩) (fun K hK => ?_)
      · intro w; go_simp; exact one_lt hlen
      go_simp
      refine hK _ _ ?_
      clear hK K
      refine wpAny_named (i := 12) (v := ?_) rfl (by kernel_rfl) (by kernel_rfl) (by kernel_rfl) (fun _ _ _ h => h) (Or.inl ⟨by rfl, ?_⟩) (fun K hK => ?_)
      rotate_left
      · intro w; go_simp; try with_reducible rfl
      go_simp
      refine hK _ _ ?_
      clear hK K
      refine wpAny_named (i := 13) (v := ?_) rfl (by kernel_rfl) (by kernel_rfl) (by kernel_rfl) (fun _ _ _ h => h) (Or.inl ⟨by rfl, ?_⟩) (fun K hK => ?_)
      rotate_left
      · intro w; go_simp; try with_reducible rfl
      go_simp
      refine hK _ _ ?_
      clear hK K
      refine wpAny_named (i := 14) (v := undef) rfl (by kernel_rfl) (by kernel_rfl) (by kernel_rfl) (fun _ _ _ h => h) (Or.inr ⟨by rfl, rfl⟩) (fun K hK => ?_)
      go_simp
      refine hK _ _ ?_
      clear hK K
      refine wpAny_named (i := 15) (v := undef) rfl (by kernel_rfl) (by kernel_rfl) (by kernel_rfl) (fun _ _ _ h => h) (Or.inr ⟨by rfl, rfl⟩) (fun K hK => ?_)
      go_simp
      refine hK _ _ ?_
      clear hK K
      refine wpAny_named (i := 16) (v := undef) rfl (by kernel_rfl) (by kernel_rfl) (by kernel_rfl) (fun _ _ _ h => h) (Or.inr ⟨by rfl, rfl⟩) (fun K hK => ?_)
      go_simp
      refine hK _ _ ?_
      clear hK K
      refine wpAny_named (i := 17) (v := undef) rfl (by kernel_rfl) (by kernel_rfl) (by kernel_rfl) (fun _ _ _ h => h) (Or.inr ⟨by rfl, rfl⟩) (fun K hK => ?_)
      go_simp
      refine hK _ _ ?_
      clear hK K
      refine wpAny_named (i := 18) (v := undef) rfl (by kernel_rfl) (by kernel_rfl) (by kernel_rfl) (fun _ _ _ h => h) (Or.inr ⟨by rfl, rfl⟩) (fun K hK => ?_)
      go_simp
      refine hK _ _ ?_
      clear hK K
      refine wpAny_named (i := 19) (v := ?_) rfl (by kernel_rfl) (by kernel_rfl) (by kernel_rfl) (fun _ _ _ h => h) (Or.inl ⟨by rfl, ?_⟩) (fun K hK => ?_)
      rotate_left
      · intro w; go_simp; try with_reducible rfl
      go_simp
      refine hK _ _ ?_
      clear hK K
      refine wpAny_named (i := 20) (v := ?_) rfl (by kernel_rfl) (by kernel_rfl) (by kernel_rfl) (fun _ _ _ h => h) (Or.inl ⟨by rfl, ?_⟩) (fun K hK => ?_)
      rotate_left
      · intro w; go_simp; try with_reducible rfl
      go_simp
      refine hK _ _ ?_
      clear hK K
      refine wpAny_done (by kernel_rfl) ?_ _
      go_wp2
      go_ret2
      exact ⟨rfl, hfin⟩

theorem begin_err {p s n : Int} {ad : Option Addr} {len cap : Nat} {x : Value} {c : Int} {w : World} (hc : c ≠ 0)
    (hv : ∀ w', Below w.heap.size w w' → Calls Tryz.prog 122 #[.agg #[.int .i64 p, .int .i64 s, .int .i64 n, .slice ad len cap], x] w' fun e w'' => e = .returned (.tuple #[.pointer none, .int .i64 c]) ∧ Below w'.heap.size w' w'') :
    Calls Tryz.prog 70 #[.agg #[.int .i64 p, .int .i64 s, .int .i64 n, .slice ad len cap], x] w fun e w' => e = .returned (.tuple #[.pointer none, .int .i64 c]) ∧ Below w.heap.size w w' := by
  have hb := (Below.refl w.heap.size w).alloc (Nat.le_refl _) (.cells #[.int .i64 p, .int .i64 s, .int .i64 n, .slice ad len cap] 50)
  have hcc : (c != 0) = true := by simpa using hc
  go_enter Tryz.func70, Tryz.ntmps70
  go_wp2_with (first
    | (go_at_call 122; refine (hv _ hb).mono ?_; rintro e w1 ⟨rfl, hw1⟩))
  go_ret2
  exact ⟨rfl, hb.trans (hw1.mono (by simp))⟩

theorem deskOpen_err {p s n : Int} {ad : Option Addr} {len cap : Nat} {x : Value} {c : Int} {w : World} (hc : c ≠ 0)
    (hv : ∀ w', Below w.heap.size w w' → Calls Tryz.prog 122 #[.agg #[.int .i64 p, .int .i64 s, .int .i64 n, .slice ad len cap], x] w' fun e w'' => e = .returned (.tuple #[.pointer none, .int .i64 c]) ∧ Below w'.heap.size w' w'') :
    Calls Tryz.prog 17 #[.agg #[.int .i64 p, .int .i64 s, .int .i64 n, .slice ad len cap], x] w fun e w' => e = .returned (.tuple #[.pointer none, .int .i64 c]) ∧ Below w.heap.size w w' := by
  have hb := (Below.refl w.heap.size w).alloc (Nat.le_refl _) (.cells #[.int .i64 p, .int .i64 s, .int .i64 n, .slice ad len cap] 50)
  have hcc : (c != 0) = true := by simpa using hc
  go_enter Tryz.func17, Tryz.ntmps17
  go_wp2_with (first
    | (go_at_call 70; refine (begin_err hc (fun w' h => hv w' (hb.trans (h.mono (by simp))))).mono ?_; rintro e w1 ⟨rfl, hw1⟩))
  go_ret2
  exact ⟨rfl, hb.trans (hw1.mono (by simp))⟩
end Go.Ev
