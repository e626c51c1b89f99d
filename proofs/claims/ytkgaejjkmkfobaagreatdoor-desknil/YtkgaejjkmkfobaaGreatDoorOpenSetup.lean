/- What a setup reads as, opened: its rooms can be read. -/
import Derived.Test.YtkgaejjkmkfobaaGreatDoorOpen
import Derived.Test.YtkgaejjkmkfobaaGreatDoorDesk2
import Derived.Deep.Slices
namespace Go.Proofs.YtkgaejjkmkfobaaGreatDoor
open Go.ChangeShapes Go.WideShapes Go.ChangeAt Go.RowKit Go.Joins Go.Ev Go.Deep
set_option linter.unusedVariables false
set_option maxRecDepth 100000

theorem array4' {cs : Array Value} (h : cs.size = 4) : ∃ a b c d, cs = #[a, b, c, d] := by
  obtain ⟨l⟩ := cs
  match l, h with
  | [a, b, c, d], _ => exact ⟨a, b, c, d, rfl⟩
theorem list4 {l : List Value} (h : l.length = 4) : ∃ a b c d, l = [a, b, c, d] := by
  match l, h with
  | [a, b, c, d], _ => exact ⟨a, b, c, d, rfl⟩

theorem cellsSetup : Tryz.prog.cellsOf 50 = 4 := by kernel_rfl
theorem cellsRoom : Tryz.prog.cellsOf 102 = 4 := by kernel_rfl
theorem cellsRooms : Tryz.prog.cellsOf 48 = 1 := by kernel_rfl
theorem cellsTags : Tryz.prog.cellsOf 25 = 1 := by kernel_rfl
theorem cellsTag : Tryz.prog.cellsOf 26 = 1 := by kernel_rfl

theorem cell_at {W : World} {a : Addr} {v : Value} {i : Nat} (h : W.cell? (a.add i) = some v) : a.block < W.heap.size := by
  have hb : (a.add i).block = a.block := by unfold Addr.add; split <;> rfl
  rcases Nat.lt_or_ge a.block W.heap.size with h1 | h1
  · exact h1
  · have : W.heap[(a.add i).block]? = none := by rw [hb]; exact Array.getElem?_eq_none h1
    simp only [World.cell?, this] at h
    cases h
theorem cell_spot {W : World} {a : Addr} {v : Value} (h : W.cell? (a.add 0) = some v) : a.spot = none := by
  have h0 : a.add 0 = a := by simp [Addr.add]
  rw [h0] at h
  cases hs : a.spot with
  | none => rfl
  | some x =>
    simp only [World.cell?, hs, Option.isSome_some, if_true] at h
    split at h <;> cases h
theorem add_at {b o k : Nat} : (⟨b, o, none⟩ : Addr).add k = ⟨b, o + k, none⟩ := by
  unfold Addr.add
  split
  · rename_i h; subst h; rfl
  · rfl

section
variable {H : Type} {enc : TypeId × Value → H} {W : World} {r : Reach} {base b0 : Nat} {spare : Nat → Bool} {held : Bool} {v : Value} {d : DataW H} {p : List MemPlace}

theorem tags_of {fuel : Nat} {cs : List Value} {y : DataW H × List MemPlace} (h : DataW.trod enc Tryz.prog W base spare held fuel 25 cs = some y) : ∃ ad len cap, cs = [.slice ad len cap] ∧ Tags W.heap.size W ad len := by
  rcases open_ints Tryz.underlying25 Tryz.underlying26 cellsTag h with ⟨hcs, _⟩ | ⟨a, len, cap, zs, hcs, _, hl, hm, hz, _, hcell, _⟩
  · exact ⟨_, _, _, hcs, .inl rfl⟩
  · refine ⟨_, _, _, hcs, ?_⟩
    by_cases h0 : len = 0
    · exact .inl h0
    · right
      have hlz : len ≤ zs.length := by rw [hz]; split <;> omega
      have c0 := hcell 0 (by omega)
      have hsp := cell_spot c0
      have hbl := cell_at c0
      obtain ⟨b, o, sp⟩ := a
      dsimp only at hsp hbl
      subst hsp
      refine ⟨b, o, fun k => zs.getD k 0, rfl, hbl, by unfold maxLen at hm; omega, fun k hk => ?_⟩
      rw [← add_at]
      exact hcell k (by omega)

theorem room_of {fuel : Nat} {cs : List Value} {y : DataW H × List MemPlace} (h : DataW.trod enc Tryz.prog W base spare held fuel 102 cs = some y) :
    ∃ f : RoomD, cs = [.slice f.ad f.len f.cap, .int .i64 f.r, .int .i64 f.q, .int .i64 f.m] ∧ Tags W.heap.size W f.ad f.len := by
  obtain ⟨xs, n, _, _, hlen, hl, hi⟩ := DataW.trod_struct Tryz.underlying102 h
  rw [cellsRoom] at hlen
  obtain ⟨a, b, c, e, rfl⟩ := list4 hlen
  have key : ∀ (i : Nat) (fd : Field) (t o : Nat), (#[{ name := "Label", type := 25, offset := 0, embedded := false, tag := "", pkgPath := "", byteOffset := 0 },
          { name := "Ring", type := 3, offset := 1, embedded := false, tag := "", pkgPath := "", byteOffset := 24 },
          { name := "Quota", type := 3, offset := 2, embedded := false, tag := "", pkgPath := "", byteOffset := 32 },
          { name := "Most", type := 3, offset := 3, embedded := false, tag := "", pkgPath := "", byteOffset := 40 }] : Array Field)[i]? = some fd → fd.type = t → fd.offset = o → i < 4 →
      ∃ x, DataW.trod enc Tryz.prog W base spare held n t ((([a, b, c, e] : List Value).drop o).take (Tryz.prog.cellsOf t)) = some x := by
    intro i fd t o h1 h2 h3 h4
    subst h2 h3
    have h5 : i < xs.length := by rw [hl]; exact h4
    exact ⟨xs[i], by rw [hi i fd h1]; simp [h5]⟩
  obtain ⟨x0, t0⟩ := key 0 _ 25 0 rfl rfl rfl (by decide)
  obtain ⟨x1, t1⟩ := key 1 _ 3 1 rfl rfl rfl (by decide)
  obtain ⟨x2, t2⟩ := key 2 _ 3 2 rfl rfl rfl (by decide)
  obtain ⟨x3, t3⟩ := key 3 _ 3 3 rfl rfl rfl (by decide)
  rw [cellsTags] at t0
  rw [cellsInt] at t1 t2 t3
  obtain ⟨ad, len, cap, e0, ht⟩ := tags_of t0
  obtain ⟨ri, e1, _⟩ := DataW.trod_int Tryz.underlying3 t1
  obtain ⟨qu, e2, _⟩ := DataW.trod_int Tryz.underlying3 t2
  obtain ⟨mo, e3, _⟩ := DataW.trod_int Tryz.underlying3 t3
  simp at e0 e1 e2 e3
  subst e0 e1 e2 e3
  exact ⟨⟨ad, len, cap, ri, qu, mo⟩, rfl, ht⟩

theorem rooms_of {fuel : Nat} {cs : List Value} {y : DataW H × List MemPlace} (h : DataW.trod enc Tryz.prog W base spare held fuel 48 cs = some y) :
    ∃ ad len cap, cs = [.slice ad len cap] ∧ len ≤ cap ∧ len ≤ 9223372036854775807 ∧ Rooms W.heap.size W ad len := by
  rcases open_slice Tryz.underlying48 h with ⟨hcs, _⟩ | ⟨a, len, cap, m, n, D, Pl, hcs, _, hl, hm, hmm, _, hx⟩
  · exact ⟨_, _, _, hcs, Nat.le_refl _, by omega, .inl rfl⟩
  · have hb : len ≤ 9223372036854775807 := by unfold maxLen at hm; omega
    refine ⟨_, _, _, hcs, hl, hb, ?_⟩
    by_cases h0 : len = 0
    · exact .inl h0
    · right
      have hlm : len ≤ m := by rw [hmm]; split <;> omega
      rw [cellsRoom] at hx
      have each : ∀ i, i < len → ∃ f : RoomD, W.cell? (a.add (i * 4)) = some (.slice f.ad f.len f.cap) ∧ W.cell? ((a.add (i * 4)).add 1) = some (.int .i64 f.r) ∧ W.cell? ((a.add (i * 4)).add 2) = some (.int .i64 f.q) ∧ W.cell? ((a.add (i * 4)).add 3) = some (.int .i64 f.m) ∧ Tags W.heap.size W f.ad f.len := by
        intro i hi
        obtain ⟨cs', h1, h2⟩ := hx i (by omega)
        obtain ⟨_, _, hc⟩ := World.cells?_some h1
        obtain ⟨f, rfl, ht⟩ := room_of h2
        have q0 := hc 0 (by decide)
        have z0 : (a.add (i * 4)).add 0 = a.add (i * 4) := by simp [Addr.add]
        rw [z0] at q0
        exact ⟨f, by simpa using q0, by simpa using hc 1 (by decide), by simpa using hc 2 (by decide), by simpa using hc 3 (by decide), ht⟩
      have c0 : ∃ v, W.cell? (a.add 0) = some v := by
        obtain ⟨f, hf, _⟩ := each 0 (by omega)
        rw [Nat.zero_mul] at hf
        exact ⟨_, hf⟩
      obtain ⟨v0, c0⟩ := c0
      have hsp := cell_spot c0
      have hbl := cell_at c0
      obtain ⟨b, o, sp⟩ := a
      dsimp only at hsp hbl
      subst hsp
      haveI : Inhabited RoomD := ⟨⟨none, 0, 0, 0, 0, 0⟩⟩
      obtain ⟨f, hf⟩ := choose_lt each
      refine ⟨b, o, f, rfl, hbl, hb, fun k hk => ?_⟩
      obtain ⟨a0, a1, a2, a3, a4⟩ := hf k hk
      rw [add_at] at a0 a1 a2 a3
      rw [add_at] at a1 a2 a3
      exact ⟨a0, a1, a2, a3, a4⟩

/-- a setup, opened -/
theorem open_setup (hv : Value.okWide Tryz.prog W r b0 50 v) (h : DataW.Trod enc Tryz.prog W base spare held 50 v d p) :
    ∃ (pe se sc : Int) (ad : Option Addr) (len cap : Nat), v = .agg #[.int .i64 pe, .int .i64 se, .int .i64 sc, .slice ad len cap] ∧ len ≤ cap ∧ len ≤ 9223372036854775807 ∧ Rooms W.heap.size W ad len := by
  obtain ⟨cs, rfl, hsz⟩ := okWide_struct Tryz.underlying50 hv
  rw [cellsSetup] at hsz
  obtain ⟨a, b, c, e, rfl⟩ := array4' hsz
  obtain ⟨fuel, hf⟩ := h
  obtain ⟨xs, n, _, _, _, hl, hi⟩ := DataW.trod_struct Tryz.underlying50 hf
  have key : ∀ (i : Nat) (fd : Field) (t o : Nat), (#[{ name := "People", type := 3, offset := 0, embedded := false, tag := "", pkgPath := "", byteOffset := 0 },
          { name := "Sessions", type := 3, offset := 1, embedded := false, tag := "", pkgPath := "", byteOffset := 8 },
          { name := "Sectors", type := 3, offset := 2, embedded := false, tag := "", pkgPath := "", byteOffset := 16 },
          { name := "Rooms", type := 48, offset := 3, embedded := false, tag := "", pkgPath := "", byteOffset := 24 }] : Array Field)[i]? = some fd → fd.type = t → fd.offset = o → i < 4 →
      ∃ x, DataW.trod enc Tryz.prog W base spare held n t ((([a, b, c, e] : List Value).drop o).take (Tryz.prog.cellsOf t)) = some x := by
    intro i fd t o h1 h2 h3 h4
    subst h2 h3
    have h5 : i < xs.length := by rw [hl]; exact h4
    exact ⟨xs[i], by rw [show ([a, b, c, e] : List Value) = (Value.agg #[a, b, c, e]).cells.toList from rfl, hi i fd h1]; simp [h5]⟩
  obtain ⟨x0, t0⟩ := key 0 _ 3 0 rfl rfl rfl (by decide)
  obtain ⟨x1, t1⟩ := key 1 _ 3 1 rfl rfl rfl (by decide)
  obtain ⟨x2, t2⟩ := key 2 _ 3 2 rfl rfl rfl (by decide)
  obtain ⟨x3, t3⟩ := key 3 _ 48 3 rfl rfl rfl (by decide)
  rw [cellsInt] at t0 t1 t2
  rw [cellsRooms] at t3
  obtain ⟨pe, e0, _⟩ := DataW.trod_int Tryz.underlying3 t0
  obtain ⟨se, e1, _⟩ := DataW.trod_int Tryz.underlying3 t1
  obtain ⟨sc, e2, _⟩ := DataW.trod_int Tryz.underlying3 t2
  obtain ⟨ad, len, cap, e3, h4, h5, h6⟩ := rooms_of t3
  simp at e0 e1 e2 e3
  subst e0 e1 e2 e3
  exact ⟨pe, se, sc, ad, len, cap, rfl, h4, h5, h6⟩
end
end Go.Proofs.YtkgaejjkmkfobaaGreatDoor
