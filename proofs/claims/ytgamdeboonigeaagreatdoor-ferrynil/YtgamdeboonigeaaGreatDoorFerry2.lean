/- A value may be: it is answered. -/
import Derived.Test.YtgamdeboonigeaaGreatDoorFerry1
import Derived.Deep.RegionWith
namespace Go.Ev
open Go.Proofs Go.RowKit
set_option maxRecDepth 100000
set_option linter.unusedVariables false

section
variable {P : Program} {md : Region.Mode} {ops : Array Oper} {Q : Exit → Act → World → Prop}
theorem wpAny_named {i : Nat} {oi : Oper} {v : Value} {fuel : Nat} {listed : Array Bool} {a : Act} {w : World} (hi : ops[i]? = some oi)
    (hs : Region.noSelect ops = true) (hf : Region.free md ops listed i = true) (hr : (Region.ready md ops listed).contains i = true)
    (hQ : ∀ c a w, Q (.panic c) (a.put oi.dst v) w → Q (.panic c) a w) (hy : Yields P ops oi v a)
    (h : ∀ K : Act → World → Prop, (∀ a w, wpAny P md ops Q fuel (listed.setIfInBounds i true) a w → K a w) → K (a.put oi.dst v) w) : wpAny P md ops Q (fuel + 1) listed a w :=
  wpAny_take hi hs hf hr hQ hy (h _ fun _ _ h => h)
end

set_option maxHeartbeats 4000000 in
theorem valueRight_any {b : Bool} {text : ByteArray} {bits : Int} {w : World} :
    Calls Tryz.prog 42 #[.agg #[.bool b, .string text, .int .u64 bits]] w fun e w' => IsBool e ∧ Below w.heap.size w w' := by
  have hb := (Below.refl w.heap.size w).alloc (Nat.le_refl _) (.cells #[.bool b, .string text, .int .u64 bits] 46)
  cases b
  · go_enter Tryz.func42, Tryz.ntmps42
    go_wp2
    all_goals (go_ret; exact ⟨⟨_, rfl⟩, (Below.refl _ _).alloc (Nat.le_refl _) _⟩)
  · go_enter Tryz.func42, Tryz.ntmps42
    go_wp2
    refine wp_region_any (by kernel_rfl) ?_
    change wpAny _ _ _ _ _ _ _ (World.drew _)
    refine wpAny_named (i := 0) (v := ?_) rfl (by kernel_rfl) (by kernel_rfl) (by kernel_rfl) (fun _ _ _ h => h) (Or.inl ⟨by rfl, ?_⟩) (fun K hK => ?_)
    rotate_left
    · intro w; go_simp; try with_reducible rfl
    go_simp
    refine hK _ _ ?_
    clear hK K
    refine wpAny_ready (rs := [1]) (by kernel_rfl) (by simp) ?_
    refine AllReady.cons rfl (fun K hK => ?_) AllReady.nil
    go_simp
    refine hK _ _ ?_
    clear hK K
    refine wpAny_named (i := 2) (v := ?_) rfl (by kernel_rfl) (by kernel_rfl) (by kernel_rfl) (fun _ _ _ h => h) (Or.inl ⟨by rfl, ?_⟩) (fun K hK => ?_)
    rotate_left
    · intro w; go_simp; try with_reducible rfl
    go_simp
    refine hK _ _ ?_
    clear hK K
    generalize text.toList.isEmpty = q
    cases q
    · skip
      refine wpAny_named (i := 3) (v := ?_) rfl (by kernel_rfl) (by kernel_rfl) (by kernel_rfl) (fun _ _ _ h => h) (Or.inl ⟨by rfl, ?_⟩) (fun K hK => ?_)
      rotate_left
      · intro w; go_simp; try with_reducible rfl
      go_simp
      refine hK _ _ ?_
      clear hK K
      refine wpAny_named (i := 4) (v := undef) rfl (by kernel_rfl) (by kernel_rfl) (by kernel_rfl) (fun _ _ _ h => h) (Or.inr ⟨by rfl, rfl⟩) (fun K hK => ?_)
      go_simp
      refine hK _ _ ?_
      clear hK K
      refine wpAny_named (i := 5) (v := undef) rfl (by kernel_rfl) (by kernel_rfl) (by kernel_rfl) (fun _ _ _ h => h) (Or.inr ⟨by rfl, rfl⟩) (fun K hK => ?_)
      go_simp
      refine hK _ _ ?_
      clear hK K
      refine wpAny_named (i := 6) (v := undef) rfl (by kernel_rfl) (by kernel_rfl) (by kernel_rfl) (fun _ _ _ h => h) (Or.inr ⟨by rfl, rfl⟩) (fun K hK => ?_)
      go_simp
      refine hK _ _ ?_
      clear hK K
      refine wpAny_named (i := 7) (v := undef) rfl (by kernel_rfl) (by kernel_rfl) (by kernel_rfl) (fun _ _ _ h => h) (Or.inr ⟨by rfl, rfl⟩) (fun K hK => ?_)
      go_simp
      refine hK _ _ ?_
      clear hK K
      refine wpAny_named (i := 8) (v := undef) rfl (by kernel_rfl) (by kernel_rfl) (by kernel_rfl) (fun _ _ _ h => h) (Or.inr ⟨by rfl, rfl⟩) (fun K hK => ?_)
      go_simp
      refine hK _ _ ?_
      clear hK K
      refine wpAny_named (i := 9) (v := undef) rfl (by kernel_rfl) (by kernel_rfl) (by kernel_rfl) (fun _ _ _ h => h) (Or.inr ⟨by rfl, rfl⟩) (fun K hK => ?_)
      go_simp
      refine hK _ _ ?_
      clear hK K
      refine wpAny_named (i := 10) (v := undef) rfl (by kernel_rfl) (by kernel_rfl) (by kernel_rfl) (fun _ _ _ h => h) (Or.inr ⟨by rfl, rfl⟩) (fun K hK => ?_)
      go_simp
      refine hK _ _ ?_
      clear hK K
      refine wpAny_named (i := 11) (v := ?_) rfl (by kernel_rfl) (by kernel_rfl) (by kernel_rfl) (fun _ _ _ h => h) (Or.inl ⟨by rfl, ?_⟩) (fun K hK => ?_)
      rotate_left
      · intro w; go_simp; try with_reducible rfl
      go_simp
      refine hK _ _ ?_
      clear hK K
      refine wpAny_named (i := 12) (v := ?_) rfl (by kernel_rfl) (by kernel_rfl) (by kernel_rfl) (fun _ _ _ h => h) (Or.inl ⟨by rfl, ?_⟩) (fun K hK => ?_)
      rotate_left
      · intro w; go_simp; try with_reducible rfl
      go_simp
      refine hK _ _ ?_
      clear hK K
      refine wpAny_done (by kernel_rfl) ?_ _
      go_wp2
      go_ret
      exact ⟨⟨_, rfl⟩, hb.drew⟩
    · skip
      refine wpAny_named (i := 3) (v := ?_) rfl (by kernel_rfl) (by kernel_rfl) (by kernel_rfl) (fun _ _ _ h => h) (Or.inl ⟨by rfl, ?_⟩) (fun K hK => ?_)
      rotate_left
      · intro w; go_simp; try with_reducible rfl
      go_simp
      refine hK _ _ ?_
      clear hK K
      refine wpAny_named (i := 4) (v := ?_) rfl (by kernel_rfl) (by kernel_rfl) (by kernel_rfl) (fun _ _ _ h => h) (Or.inl ⟨by rfl, ?_⟩) (fun K hK => ?_)
      rotate_left
      · intro w; go_simp; try with_reducible rfl
      go_simp
      refine hK _ _ ?_
      clear hK K
      refine wpAny_named (i := 8) (v := ?_) rfl (by kernel_rfl) (by kernel_rfl) (by kernel_rfl) (fun _ _ _ h => h) (Or.inl ⟨by rfl, ?_⟩) (fun K hK => ?_)
      rotate_left
      · intro w; go_simp; try with_reducible rfl
      go_simp
      refine hK _ _ ?_
      clear hK K
      refine wpAny_ready (rs := [5, 9]) (by kernel_rfl) (by simp) ?_
      refine AllReady.cons rfl (fun K hK => ?_) (AllReady.cons rfl (fun K hK => ?_) AllReady.nil)
      · go_simp
        refine hK _ _ ?_
        clear hK K
        refine wpAny_ready (rs := [6, 9]) (by kernel_rfl) (by simp) ?_
        refine AllReady.cons rfl (fun K hK => ?_) (AllReady.cons rfl (fun K hK => ?_) AllReady.nil)
        · go_simp
          go_wp2_with fail
          refine numFrom_any.mono ?_
          rintro e w1 ⟨⟨x, rfl⟩, hw1⟩
          subst hw1
          refine hK _ _ ?_
          clear hK K
          refine wpAny_ready (rs := [7, 9]) (by kernel_rfl) (by simp) ?_
          refine AllReady.cons rfl (fun K hK => ?_) (AllReady.cons rfl (fun K hK => ?_) AllReady.nil)
          · go_simp
            go_wp2_with fail
            refine numBits_any.mono ?_
            rintro e w2 ⟨⟨y, rfl⟩, hw2⟩
            subst hw2
            refine hK _ _ ?_
            clear hK K
            refine wpAny_ready (rs := [9]) (by kernel_rfl) (by simp) ?_
            refine AllReady.cons rfl (fun K hK => ?_) AllReady.nil
            go_simp
            refine hK _ _ ?_
            clear hK K
            refine wpAny_named (i := 10) (v := ?_) rfl (by kernel_rfl) (by kernel_rfl) (by kernel_rfl) (fun _ _ _ h => h) (Or.inl ⟨by rfl, ?_⟩) (fun K hK => ?_)
            rotate_left
            · intro w; go_simp; try with_reducible rfl
            go_simp
            refine hK _ _ ?_
            clear hK K
            refine wpAny_named (i := 11) (v := ?_) rfl (by kernel_rfl) (by kernel_rfl) (by kernel_rfl) (fun _ _ _ h => h) (Or.inl ⟨by rfl, ?_⟩) (fun K hK => ?_)
            rotate_left
            · intro w; go_simp; try with_reducible rfl
            go_simp
            refine hK _ _ ?_
            clear hK K
            refine wpAny_named (i := 12) (v := ?_) rfl (by kernel_rfl) (by kernel_rfl) (by kernel_rfl) (fun _ _ _ h => h) (Or.inl ⟨by rfl, ?_⟩) (fun K hK => ?_)
            rotate_left
            · intro w; go_simp; try with_reducible rfl
            go_simp
            refine hK _ _ ?_
            clear hK K
            refine wpAny_done (by kernel_rfl) ?_ _
            go_wp2
            go_ret
            exact ⟨⟨_, rfl⟩, hb.drew⟩
          · go_simp
            refine hK _ _ ?_
            clear hK K
            refine wpAny_ready (rs := [7]) (by kernel_rfl) (by simp) ?_
            refine AllReady.cons rfl (fun K hK => ?_) AllReady.nil
            go_simp
            go_wp2_with fail
            refine numBits_any.mono ?_
            rintro e w2 ⟨⟨y, rfl⟩, hw2⟩
            subst hw2
            refine hK _ _ ?_
            clear hK K
            refine wpAny_named (i := 10) (v := ?_) rfl (by kernel_rfl) (by kernel_rfl) (by kernel_rfl) (fun _ _ _ h => h) (Or.inl ⟨by rfl, ?_⟩) (fun K hK => ?_)
            rotate_left
            · intro w; go_simp; try with_reducible rfl
            go_simp
            refine hK _ _ ?_
            clear hK K
            refine wpAny_named (i := 11) (v := ?_) rfl (by kernel_rfl) (by kernel_rfl) (by kernel_rfl) (fun _ _ _ h => h) (Or.inl ⟨by rfl, ?_⟩) (fun K hK => ?_)
            rotate_left
            · intro w; go_simp; try with_reducible rfl
            go_simp
            refine hK _ _ ?_
            clear hK K
            refine wpAny_named (i := 12) (v := ?_) rfl (by kernel_rfl) (by kernel_rfl) (by kernel_rfl) (fun _ _ _ h => h) (Or.inl ⟨by rfl, ?_⟩) (fun K hK => ?_)
            rotate_left
            · intro w; go_simp; try with_reducible rfl
            go_simp
            refine hK _ _ ?_
            clear hK K
            refine wpAny_done (by kernel_rfl) ?_ _
            go_wp2
            go_ret
            exact ⟨⟨_, rfl⟩, hb.drew⟩
        · go_simp
          refine hK _ _ ?_
          clear hK K
          refine wpAny_ready (rs := [6]) (by kernel_rfl) (by simp) ?_
          refine AllReady.cons rfl (fun K hK => ?_) AllReady.nil
          go_simp
          go_wp2_with fail
          refine numFrom_any.mono ?_
          rintro e w1 ⟨⟨x, rfl⟩, hw1⟩
          subst hw1
          refine hK _ _ ?_
          clear hK K
          refine wpAny_ready (rs := [7]) (by kernel_rfl) (by simp) ?_
          refine AllReady.cons rfl (fun K hK => ?_) AllReady.nil
          go_simp
          go_wp2_with fail
          refine numBits_any.mono ?_
          rintro e w2 ⟨⟨y, rfl⟩, hw2⟩
          subst hw2
          refine hK _ _ ?_
          clear hK K
          refine wpAny_named (i := 10) (v := ?_) rfl (by kernel_rfl) (by kernel_rfl) (by kernel_rfl) (fun _ _ _ h => h) (Or.inl ⟨by rfl, ?_⟩) (fun K hK => ?_)
          rotate_left
          · intro w; go_simp; try with_reducible rfl
          go_simp
          refine hK _ _ ?_
          clear hK K
          refine wpAny_named (i := 11) (v := ?_) rfl (by kernel_rfl) (by kernel_rfl) (by kernel_rfl) (fun _ _ _ h => h) (Or.inl ⟨by rfl, ?_⟩) (fun K hK => ?_)
          rotate_left
          · intro w; go_simp; try with_reducible rfl
          go_simp
          refine hK _ _ ?_
          clear hK K
          refine wpAny_named (i := 12) (v := ?_) rfl (by kernel_rfl) (by kernel_rfl) (by kernel_rfl) (fun _ _ _ h => h) (Or.inl ⟨by rfl, ?_⟩) (fun K hK => ?_)
          rotate_left
          · intro w; go_simp; try with_reducible rfl
          go_simp
          refine hK _ _ ?_
          clear hK K
          refine wpAny_done (by kernel_rfl) ?_ _
          go_wp2
          go_ret
          exact ⟨⟨_, rfl⟩, hb.drew⟩
      · go_simp
        refine hK _ _ ?_
        clear hK K
        refine wpAny_ready (rs := [5]) (by kernel_rfl) (by simp) ?_
        refine AllReady.cons rfl (fun K hK => ?_) AllReady.nil
        go_simp
        refine hK _ _ ?_
        clear hK K
        refine wpAny_ready (rs := [6]) (by kernel_rfl) (by simp) ?_
        refine AllReady.cons rfl (fun K hK => ?_) AllReady.nil
        go_simp
        go_wp2_with fail
        refine numFrom_any.mono ?_
        rintro e w1 ⟨⟨x, rfl⟩, hw1⟩
        subst hw1
        refine hK _ _ ?_
        clear hK K
        refine wpAny_ready (rs := [7]) (by kernel_rfl) (by simp) ?_
        refine AllReady.cons rfl (fun K hK => ?_) AllReady.nil
        go_simp
        go_wp2_with fail
        refine numBits_any.mono ?_
        rintro e w2 ⟨⟨y, rfl⟩, hw2⟩
        subst hw2
        refine hK _ _ ?_
        clear hK K
        refine wpAny_named (i := 10) (v := ?_) rfl (by kernel_rfl) (by kernel_rfl) (by kernel_rfl) (fun _ _ _ h => h) (Or.inl ⟨by rfl, ?_⟩) (fun K hK => ?_)
        rotate_left
        · intro w; go_simp; try with_reducible rfl
        go_simp
        refine hK _ _ ?_
        clear hK K
        refine wpAny_named (i := 11) (v := ?_) rfl (by kernel_rfl) (by kernel_rfl) (by kernel_rfl) (fun _ _ _ h => h) (Or.inl ⟨by rfl, ?_⟩) (fun K hK => ?_)
        rotate_left
        · intro w; go_simp; try with_reducible rfl
        go_simp
        refine hK _ _ ?_
        clear hK K
        refine wpAny_named (i := 12) (v := ?_) rfl (by kernel_rfl) (by kernel_rfl) (by kernel_rfl) (fun _ _ _ h => h) (Or.inl ⟨by rfl, ?_⟩) (fun K hK => ?_)
        rotate_left
        · intro w; go_simp; try with_reducible rfl
        go_simp
        refine hK _ _ ?_
        clear hK K
        refine wpAny_done (by kernel_rfl) ?_ _
        go_wp2
        go_ret
        exact ⟨⟨_, rfl⟩, hb.drew⟩
end Go.Ev
