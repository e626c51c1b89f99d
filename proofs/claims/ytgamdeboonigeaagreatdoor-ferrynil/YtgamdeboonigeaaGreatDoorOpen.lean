/- What an act reads as, opened; closed facts of the program that every row asks. -/
import Derived.Test.YtgamdeboonigeaaGreatDoorRows
import Derived.WalkKit
import Derived.ProofKit
import Derived.OpenShut
import Derived.ShutString
import Derived.ChangeOld
import Derived.Carry
import Derived.Lib.SmallJoins
import Derived.Lay
import Derived.LaidOnce
import Derived.SevenTiedAt
namespace Go.Proofs.YtgamdeboonigeaaGreatDoor
open Go.ChangeShapes Go.WideShapes Go.ChangeAt Go.RowKit Go.Joins
set_option linter.unusedVariables false
set_option maxRecDepth 100000

theorem own : ownKnob Tryz.prog.godebug = none := by kernel_rfl

theorem array5 {cs : Array Value} (h : cs.size = 5) : ∃ a b c d e, cs = #[a, b, c, d, e] := by
  obtain ⟨l⟩ := cs
  match l, h with
  | [a, b, c, d, e], _ => exact ⟨a, b, c, d, e, rfl⟩

theorem cellsAct : Tryz.prog.cellsOf 79 = 5 := by kernel_rfl
theorem cellsInt : Tryz.prog.cellsOf 3 = 1 := by kernel_rfl
theorem cellsString : Tryz.prog.cellsOf 9 = 1 := by kernel_rfl
theorem cellsPicks : Tryz.prog.cellsOf 77 = 1 := by kernel_rfl

section
variable {H : Type} {enc : TypeId × Value → H} {W : World} {r : Reach} {base b0 : Nat} {spare : Nat → Bool} {held : Bool} {v : Value} {d : DataW H} {p : List MemPlace}
/-- an act, opened -/
theorem open_act (hv : Value.okWide Tryz.prog W r b0 79 v) (h : DataW.Trod enc Tryz.prog W base spare held 79 v d p) :
    ∃ (k s pl : Int) (bs : ByteArray) (ad : Option Addr) (len cap : Nat), v = .agg #[.int .i64 k, .int .i64 s, .int .i64 pl, .string bs, .slice ad len cap] := by
  obtain ⟨cs, rfl, hsz⟩ := okWide_struct Tryz.underlying79 hv
  rw [cellsAct] at hsz
  obtain ⟨a, b, c, e, f, rfl⟩ := array5 hsz
  obtain ⟨fuel, hf⟩ := h
  obtain ⟨xs, n, _, _, _, hl, hi⟩ := DataW.trod_struct Tryz.underlying79 hf
  have key : ∀ (i : Nat) (fd : Field) (t o : Nat), (#[{ name := "Kind", type := 3, offset := 0, embedded := false, tag := "", pkgPath := "", byteOffset := 0 },
          { name := "S", type := 3, offset := 1, embedded := false, tag := "", pkgPath := "", byteOffset := 8 },
          { name := "Place", type := 3, offset := 2, embedded := false, tag := "", pkgPath := "", byteOffset := 16 },
          { name := "Bytes", type := 9, offset := 3, embedded := false, tag := "", pkgPath := "", byteOffset := 24 },
          { name := "Picks", type := 77, offset := 4, embedded := false, tag := "", pkgPath := "", byteOffset := 40 }] : Array Field)[i]? = some fd → fd.type = t → fd.offset = o → i < 5 →
      ∃ x, DataW.trod enc Tryz.prog W base spare held n t ((([a, b, c, e, f] : List Value).drop o).take (Tryz.prog.cellsOf t)) = some x := by
    intro i fd t o h1 h2 h3 h4
    subst h2 h3
    have h5 : i < xs.length := by rw [hl]; exact h4
    exact ⟨xs[i], by rw [show ([a, b, c, e, f] : List Value) = (Value.agg #[a, b, c, e, f]).cells.toList from rfl, hi i fd h1]; simp [h5]⟩
  obtain ⟨x0, t0⟩ := key 0 _ 3 0 rfl rfl rfl (by decide)
  obtain ⟨x1, t1⟩ := key 1 _ 3 1 rfl rfl rfl (by decide)
  obtain ⟨x2, t2⟩ := key 2 _ 3 2 rfl rfl rfl (by decide)
  obtain ⟨x3, t3⟩ := key 3 _ 9 3 rfl rfl rfl (by decide)
  obtain ⟨x4, t4⟩ := key 4 _ 77 4 rfl rfl rfl (by decide)
  rw [cellsInt] at t0 t1 t2
  rw [cellsString] at t3
  rw [cellsPicks] at t4
  obtain ⟨k, e0, _⟩ := DataW.trod_int Tryz.underlying3 t0
  obtain ⟨s, e1, _⟩ := DataW.trod_int Tryz.underlying3 t1
  obtain ⟨pl, e2, _⟩ := DataW.trod_int Tryz.underlying3 t2
  obtain ⟨bs, e3, _⟩ := DataW.trod_string Tryz.underlying9 t3
  obtain ⟨ad, len, cap, e4⟩ := slice_form Tryz.underlying77 t4
  simp at e0 e1 e2 e3 e4
  subst e0 e1 e2 e3 e4
  exact ⟨k, s, pl, bs, ad, len, cap, rfl⟩
end

/-! ### no goroutine is begun -/
def quietFunc (fn : Func) : Bool := !fn.goes
theorem noGo : Tryz.prog.funcs.toList.all quietFunc = true := by kernel_rfl
theorem goes_false {P : Program} (h : P.funcs.toList.all quietFunc = true) (f : FuncId) : P.goes f = false := by
  have key : ∀ fn ∈ P.funcs.toList, fn.goes = false := fun fn hm => by
    have := List.all_eq_true.1 h fn hm
    simpa [quietFunc] using this
  have k2 : P.funcs.any Func.goes = false := by
    rw [Array.any_eq_false']
    intro fn hm
    rw [key fn (by simpa using hm)]
    simp
  unfold Program.goes
  rw [k2, Bool.and_false, Bool.or_false]
  rw [List.any_eq_false]
  intro g _
  cases hg : P.funcs[g]? with
  | none => simp
  | some fn =>
    have := Array.mem_of_getElem? hg
    simp [key fn (by simpa using this)]
theorem mainIs : Tryz.pinned.checked.prog.mainIs = some (true, "0babe7f27ce60e48ddb6dfbcdb2c990e1ad253dbc424e6a52541695bdb1fcf11".toList) := by kernel_rfl
end Go.Proofs.YtgamdeboonigeaaGreatDoor
