/- What entries read as, opened: they can be read. -/
import Derived.Test.YtgamdeboonigeaaGreatDoorOpen
import Derived.Test.YtgamdeboonigeaaGreatDoorFerry1
import Derived.Deep.Slices
namespace Go.Proofs.YtgamdeboonigeaaGreatDoor
open Go.ChangeShapes Go.WideShapes Go.ChangeAt Go.RowKit Go.Joins Go.Ev Go.Deep
set_option linter.unusedVariables false
set_option maxRecDepth 100000

theorem list3 {l : List Value} (h : l.length = 3) : ∃ a b c, l = [a, b, c] := by
  match l, h with
  | [a, b, c], _ => exact ⟨a, b, c, rfl⟩
theorem list5 {l : List Value} (h : l.length = 5) : ∃ a b c d e, l = [a, b, c, d, e] := by
  match l, h with
  | [a, b, c, d, e], _ => exact ⟨a, b, c, d, e, rfl⟩

theorem cellsValue : Tryz.prog.cellsOf 46 = 3 := by kernel_rfl
theorem cellsEntry : Tryz.prog.cellsOf 53 = 5 := by kernel_rfl
theorem cellsBool : Tryz.prog.cellsOf 4 = 1 := by kernel_rfl
theorem cellsU64 : Tryz.prog.cellsOf 44 = 1 := by kernel_rfl

theorem cell_at {W : World} {a : Addr} {v : Value} {i : Nat} (h : W.cell? (a.add i) = some v) : a.block < W.heap.size := by
  have hb : (a.add i).block = a.block := by unfold Addr.add; split <;> rfl
  rcases Nat.lt_or_ge a.block W.heap.size with h1 | h1
  · exact h1
  · have : W.heap[(a.add i).block]? = none := by rw [hb]; exact Array.getElem?_eq_none h1
    simp only [World.cell?, this] at h
    cases h
theorem cell_spot {W : World} {a : Addr} {v : Value} (h : W.cell? (a.add 0) = some v) : a.spot = none := by
  have h0 : a.add 0 = a := by simp [Addr.add]
  rw [h0] at h
  cases hs : a.spot with
  | none => rfl
  | some x =>
    simp only [World.cell?, hs, Option.isSome_some, if_true] at h
    split at h <;> cases h
theorem add_at {b o k : Nat} : (⟨b, o, none⟩ : Addr).add k = ⟨b, o + k, none⟩ := by
  unfold Addr.add
  split
  · rename_i h; subst h; rfl
  · rfl

section
variable {H : Type} {enc : TypeId × Value → H} {W : World} {r : Reach} {base b0 : Nat} {spare : Nat → Bool} {held : Bool} {v : Value} {d : DataW H} {p : List MemPlace}


theorem value_of {fuel : Nat} {cs : List Value} {y : DataW H × List MemPlace} (h : DataW.trod enc Tryz.prog W base spare held fuel 46 cs = some y) :
    ∃ (n : Bool) (t : ByteArray) (b : Int), cs = [.bool n, .string t, .int .u64 b] := by
  obtain ⟨xs, n, _, _, hlen, hl, hi⟩ := DataW.trod_struct Tryz.underlying46 h
  rw [cellsValue] at hlen
  obtain ⟨a, b, c, rfl⟩ := list3 hlen
  have key : ∀ (i : Nat) (fd : Field) (t o : Nat), (#[{ name := "Number", type := 4, offset := 0, embedded := false, tag := "", pkgPath := "", byteOffset := 0 },
          { name := "Text", type := 9, offset := 1, embedded := false, tag := "", pkgPath := "", byteOffset := 8 },
          { name := "Bits", type := 44, offset := 2, embedded := false, tag := "", pkgPath := "", byteOffset := 24 }] : Array Field)[i]? = some fd → fd.type = t → fd.offset = o → i < 3 →
      ∃ x, DataW.trod enc Tryz.prog W base spare held n t ((([a, b, c] : List Value).drop o).take (Tryz.prog.cellsOf t)) = some x := by
    intro i fd t o h1 h2 h3 h4
    subst h2 h3
    have h5 : i < xs.length := by rw [hl]; exact h4
    exact ⟨xs[i], by rw [hi i fd h1]; simp [h5]⟩
  obtain ⟨x0, t0⟩ := key 0 _ 4 0 rfl rfl rfl (by decide)
  obtain ⟨x1, t1⟩ := key 1 _ 9 1 rfl rfl rfl (by decide)
  obtain ⟨x2, t2⟩ := key 2 _ 44 2 rfl rfl rfl (by decide)
  rw [cellsBool] at t0
  rw [cellsString] at t1
  rw [cellsU64] at t2
  obtain ⟨nu, e0, _⟩ := DataW.trod_bool Tryz.underlying4 t0
  obtain ⟨te, e1, _⟩ := DataW.trod_string Tryz.underlying9 t1
  obtain ⟨bi, e2, _⟩ := DataW.trod_int Tryz.underlying44 t2
  simp at e0 e1 e2
  subst e0 e1 e2
  exact ⟨nu, te, bi, rfl⟩

theorem entry_of {fuel : Nat} {cs : List Value} {y : DataW H × List MemPlace} (h : DataW.trod enc Tryz.prog W base spare held fuel 53 cs = some y) :
    ∃ f : EntryD, cs = [.string f.key, .int .i64 f.seq, .bool f.num, .string f.text, .int .u64 f.bits] := by
  obtain ⟨xs, n, _, _, hlen, hl, hi⟩ := DataW.trod_struct Tryz.underlying53 h
  rw [cellsEntry] at hlen
  obtain ⟨a, b, c, d, e, rfl⟩ := list5 hlen
  have key : ∀ (i : Nat) (fd : Field) (t o : Nat), (#[{ name := "Key", type := 9, offset := 0, embedded := false, tag := "", pkgPath := "", byteOffset := 0 },
          { name := "Seq", type := 3, offset := 1, embedded := false, tag := "", pkgPath := "", byteOffset := 16 },
          { name := "Value", type := 46, offset := 2, embedded := false, tag := "", pkgPath := "", byteOffset := 24 }] : Array Field)[i]? = some fd → fd.type = t → fd.offset = o → i < 3 →
      ∃ x, DataW.trod enc Tryz.prog W base spare held n t ((([a, b, c, d, e] : List Value).drop o).take (Tryz.prog.cellsOf t)) = some x := by
    intro i fd t o h1 h2 h3 h4
    subst h2 h3
    have h5 : i < xs.length := by rw [hl]; exact h4
    exact ⟨xs[i], by rw [hi i fd h1]; simp [h5]⟩
  obtain ⟨x0, t0⟩ := key 0 _ 9 0 rfl rfl rfl (by decide)
  obtain ⟨x1, t1⟩ := key 1 _ 3 1 rfl rfl rfl (by decide)
  obtain ⟨x2, t2⟩ := key 2 _ 46 2 rfl rfl rfl (by decide)
  rw [cellsString] at t0
  rw [cellsInt] at t1
  rw [cellsValue] at t2
  obtain ⟨ke, e0, _⟩ := DataW.trod_string Tryz.underlying9 t0
  obtain ⟨se, e1, _⟩ := DataW.trod_int Tryz.underlying3 t1
  obtain ⟨nu, te, bi, e2⟩ := value_of t2
  simp at e0 e1 e2
  obtain ⟨e2, e3, e4⟩ := e2
  subst e0 e1 e2 e3 e4
  exact ⟨⟨ke, se, nu, te, bi⟩, rfl⟩

theorem entries_of {fuel : Nat} {cs : List Value} {y : DataW H × List MemPlace} (h : DataW.trod enc Tryz.prog W base spare held fuel 22 cs = some y) :
    ∃ ad len cap, cs = [.slice ad len cap] ∧ Entries W.heap.size W ad len := by
  rcases open_slice Tryz.underlying22 h with ⟨hcs, _⟩ | ⟨a, len, cap, m, n, D, Pl, hcs, _, hl, hm, hmm, _, hx⟩
  · exact ⟨_, _, _, hcs, .inl rfl⟩
  · have hb : len ≤ 9223372036854775807 := by unfold maxLen at hm; omega
    refine ⟨_, _, _, hcs, ?_⟩
    by_cases h0 : len = 0
    · exact .inl h0
    · right
      have hlm : len ≤ m := by rw [hmm]; split <;> omega
      rw [cellsEntry] at hx
      have each : ∀ i, i < len → ∃ f : EntryD, W.cell? (a.add (i * 5)) = some (.string f.key) ∧ W.cell? ((a.add (i * 5)).add 1) = some (.int .i64 f.seq) ∧ W.cell? ((a.add (i * 5)).add 2) = some (.bool f.num) ∧ W.cell? ((a.add (i * 5)).add 3) = some (.string f.text) ∧ W.cell? ((a.add (i * 5)).add 4) = some (.int .u64 f.bits) := by
        intro i hi
        obtain ⟨cs', h1, h2⟩ := hx i (by omega)
        obtain ⟨_, _, hc⟩ := World.cells?_some h1
        obtain ⟨f, rfl⟩ := entry_of h2
        have q0 := hc 0 (by decide)
        have z0 : (a.add (i * 5)).add 0 = a.add (i * 5) := by simp [Addr.add]
        rw [z0] at q0
        exact ⟨f, by simpa using q0, by simpa using hc 1 (by decide), by simpa using hc 2 (by decide), by simpa using hc 3 (by decide), by simpa using hc 4 (by decide)⟩
      have c0 : ∃ v, W.cell? (a.add 0) = some v := by
        obtain ⟨f, hf, _⟩ := each 0 (by omega)
        rw [Nat.zero_mul] at hf
        exact ⟨_, hf⟩
      obtain ⟨v0, c0⟩ := c0
      have hsp := cell_spot c0
      have hbl := cell_at c0
      obtain ⟨b, o, sp⟩ := a
      dsimp only at hsp hbl
      subst hsp
      haveI : Inhabited EntryD := ⟨⟨ByteArray.empty, 0, false, ByteArray.empty, 0⟩⟩
      obtain ⟨f, hf⟩ := choose_lt each
      refine ⟨b, o, f, rfl, hbl, hb, fun k hk => ?_⟩
      obtain ⟨a0, a1, a2, a3, a4⟩ := hf k hk
      rw [add_at] at a0 a1 a2 a3 a4
      rw [add_at] at a1 a2 a3 a4
      exact ⟨a0, a1, a2, a3, a4⟩

theorem open_entries (hv : Value.okWide Tryz.prog W r b0 22 v) (h : DataW.Trod enc Tryz.prog W base spare held 22 v d p) :
    ∃ (ad : Option Addr) (len cap : Nat), v = .slice ad len cap ∧ Entries W.heap.size W ad len := by
  obtain ⟨a0, l0, c0, rfl⟩ := okWide_slice Tryz.underlying22 hv
  obtain ⟨fuel, hf⟩ := h
  obtain ⟨ad, len, cap, e, h1⟩ := entries_of hf
  simp only [Value.cells, List.cons.injEq, Value.slice.injEq, and_true] at e
  obtain ⟨rfl, rfl, rfl⟩ := e
  exact ⟨_, _, _, rfl, h1⟩
end
end Go.Proofs.YtgamdeboonigeaaGreatDoor
