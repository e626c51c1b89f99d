/-
  NARROWER THAN 'FOR EVERY INPUT', by the rows' own cells (each row's printed sentence says how): CutNil: laid · DeskNil: laid · WatchNil: laid.
  DERIVED. THE GIVEN ROWS OF THIS SEAT. 3 by the template 'for every input the law returns true; each argument reads behind the call as it read before'; 0 by the template 'total and deterministic' (their statements: YtkgaejjkmkfobaaGreatDoorTotals.lean).
  GIVEN WITH THE SEED: the statements are not yours to turn. If you find one false, say at which input.
  Laid BY PROGRAM, IN A SANDBOX (cutbox-rows.mjs): the forced cells as the released guide's own fill.sh prints them over the translation c20f30efa175cd0e… (all of the seat's roots in one cut). By AI agents, Wed Nov 11 2026. No macro, syntax, notation, axiom, sorry.
-/
import Derived.Test.YtkgaejjkmkfobaaGreatDoorChecked
import GoSem.PinnedTables
import GoSem.Claim
import GoSem.ClaimJoined
import GoSem.ClaimMapViews
import Derived.JoinedTies
import Derived.KernelRfl
namespace Go.Proofs.YtkgaejjkmkfobaaGreatDoor
/- THE CELL 'sum', in the pinned program and in every row, IS THE sha256 OF THE DUMP (.gsa) THAT YtkgaejjkmkfobaaGreatDoorProg.lean LOADS. Nothing in Lean hashes anything: it is a label: what it is worth is what the hold of that sum in a sandbox is worth. -/
noncomputable def Tryz.pinned : Pinned := { name := "ytkgaejjkmkfobaagreatdoor", sum := "c20f30efa175cd0e05f89c05c83745e02d520a8e8376f06df00cc88684e5f9a3", checked := Tryz.checked }
namespace Rows
def none {H : Type} : Left H := { results := [], args := [] }

/- WHAT THE LISTED PACKAGE-LEVEL VARIABLES READ AS WHEN THE CALL BEGINS. Each datum BY PROGRAM (the guide's laid-datum.mjs) off the statement by which the dump's own 'gosem.cut.vars' lays the variable. In a bare row this is a premise. The card (YtkgaejjkmkfobaaGreatDoorCards.lean) ties it to the program's text. -/
def laid_unicode_utf8_acceptRanges {H : Type} : DataW H := .agg [.agg [.lit (.int .u8 128), .lit (.int .u8 191)], .agg [.lit (.int .u8 160), .lit (.int .u8 191)], .agg [.lit (.int .u8 128), .lit (.int .u8 159)], .agg [.lit (.int .u8 144), .lit (.int .u8 191)], .agg [.lit (.int .u8 128), .lit (.int .u8 143)], .agg [.lit (.int .u8 0), .lit (.int .u8 0)], .agg [.lit (.int .u8 0), .lit (.int .u8 0)], .agg [.lit (.int .u8 0), .lit (.int .u8 0)], .agg [.lit (.int .u8 0), .lit (.int .u8 0)], .agg [.lit (.int .u8 0), .lit (.int .u8 0)], .agg [.lit (.int .u8 0), .lit (.int .u8 0)], .agg [.lit (.int .u8 0), .lit (.int .u8 0)], .agg [.lit (.int .u8 0), .lit (.int .u8 0)], .agg [.lit (.int .u8 0), .lit (.int .u8 0)], .agg [.lit (.int .u8 0), .lit (.int .u8 0)], .agg [.lit (.int .u8 0), .lit (.int .u8 0)]]
/-- One of Go's own tables, pinned by name: the form's constant. -/
def laid_unicode_utf8_first : DataW Unit := Go.Pinned.utf8First

/-- 'cloisonnelaw24.CutNil': WHATEVER THE INPUT: true; the input reads as it did. -/
def cutNilSpec : ChangeSpec := { name := "cutNil", fn := fun _ => fun
  | [d1, d2] => { results := [.lit (.bool true)], args := [d1, d2] }
  | _ => none }
def cutNilRow : OpenClaim := { program := "ytkgaejjkmkfobaagreatdoor", sum := "c20f30efa175cd0e05f89c05c83745e02d520a8e8376f06df00cc88684e5f9a3", func := "cloisonne/cloisonnelaw24.CutNil", spec := "cutNil", inPlace := ["internal/bytealg.IndexByteString", "internal/bytealg.IndexString", "internal/abi.NoEscape", "math.Float64frombits", "math.Float64bits", "slices.overlaps[string]", "slices.overlaps[int]", "internal/bytealg.abigen_runtime_cmpstring", "slices.overlaps[cloisonne/api.Write]", "math.archFloor", "math.archTrunc"], unfollowed := true, recurses := true, named := ["unicode/utf8.first", "unicode/utf8.acceptRanges", "internal/bytealg.MaxLen"], apart := false, laid := [("unicode/utf8.acceptRanges", laid_unicode_utf8_acceptRanges), ("unicode/utf8.first", laid_unicode_utf8_first)] }
def CutNilSaid : Prop := cutNilRow.holds Tryz.pinned (OpenSpec.ofChange cutNilSpec)

/-- ITS FALSE NEIGHBOUR: 'it returns false'. Refute it at one input. -/
def cutNilWrong : ChangeSpec := { name := "cutNil", fn := fun _ => fun
  | [d1, d2] => { results := [.lit (.bool false)], args := [d1, d2] }
  | _ => none }
def CutNilWrongFalsely : Prop := cutNilRow.holds Tryz.pinned (OpenSpec.ofChange cutNilWrong)

/-- 'cloisonnelaw22.DeskNil': WHATEVER THE INPUT: true; the input reads as it did. -/
def deskNilSpec : ChangeSpec := { name := "deskNil", fn := fun _ => fun
  | [d1, d2] => { results := [.lit (.bool true)], args := [d1, d2] }
  | _ => none }
def deskNilRow : OpenClaim := { program := "ytkgaejjkmkfobaagreatdoor", sum := "c20f30efa175cd0e05f89c05c83745e02d520a8e8376f06df00cc88684e5f9a3", func := "cloisonne/cloisonnelaw22.DeskNil", spec := "deskNil", inPlace := ["internal/bytealg.IndexByteString", "internal/bytealg.IndexString", "internal/abi.NoEscape", "math.Float64frombits", "math.Float64bits", "slices.overlaps[string]", "slices.overlaps[int]", "internal/bytealg.abigen_runtime_cmpstring", "slices.overlaps[cloisonne/api.Write]", "math.archFloor", "math.archTrunc"], unfollowed := true, recurses := true, named := ["unicode/utf8.first", "unicode/utf8.acceptRanges", "internal/bytealg.MaxLen"], apart := false, laid := [("unicode/utf8.acceptRanges", laid_unicode_utf8_acceptRanges), ("unicode/utf8.first", laid_unicode_utf8_first)] }
def DeskNilSaid : Prop := deskNilRow.holds Tryz.pinned (OpenSpec.ofChange deskNilSpec)

/-- ITS FALSE NEIGHBOUR: 'it returns false'. Refute it at one input. -/
def deskNilWrong : ChangeSpec := { name := "deskNil", fn := fun _ => fun
  | [d1, d2] => { results := [.lit (.bool false)], args := [d1, d2] }
  | _ => none }
def DeskNilWrongFalsely : Prop := deskNilRow.holds Tryz.pinned (OpenSpec.ofChange deskNilWrong)

/-- 'cloisonnelaw23.WatchNil': WHATEVER THE INPUT: true; the input reads as it did. -/
def watchNilSpec : ChangeSpec := { name := "watchNil", fn := fun _ => fun
  | [d1, d2] => { results := [.lit (.bool true)], args := [d1, d2] }
  | _ => none }
def watchNilRow : OpenClaim := { program := "ytkgaejjkmkfobaagreatdoor", sum := "c20f30efa175cd0e05f89c05c83745e02d520a8e8376f06df00cc88684e5f9a3", func := "cloisonne/cloisonnelaw23.WatchNil", spec := "watchNil", inPlace := ["internal/bytealg.IndexByteString", "internal/bytealg.IndexString", "internal/abi.NoEscape", "math.Float64frombits", "math.Float64bits", "slices.overlaps[string]", "slices.overlaps[int]", "internal/bytealg.abigen_runtime_cmpstring", "slices.overlaps[cloisonne/api.Write]", "math.archFloor", "math.archTrunc"], unfollowed := true, recurses := true, named := ["unicode/utf8.first", "unicode/utf8.acceptRanges", "internal/bytealg.MaxLen"], apart := false, laid := [("unicode/utf8.acceptRanges", laid_unicode_utf8_acceptRanges), ("unicode/utf8.first", laid_unicode_utf8_first)] }
def WatchNilSaid : Prop := watchNilRow.holds Tryz.pinned (OpenSpec.ofChange watchNilSpec)

/-- ITS FALSE NEIGHBOUR: 'it returns false'. Refute it at one input. -/
def watchNilWrong : ChangeSpec := { name := "watchNil", fn := fun _ => fun
  | [d1, d2] => { results := [.lit (.bool false)], args := [d1, d2] }
  | _ => none }
def WatchNilWrongFalsely : Prop := watchNilRow.holds Tryz.pinned (OpenSpec.ofChange watchNilWrong)

/- THE SECOND FORM. 'bulk': how many values and letters a reading holds, each counted each time it is reached (what is shared counts as often as it is met; a slice's spare places count too). A statement '..UptoSaid' is the law's where the arguments, and the package variables that the reading takes, are together of bulk at most 1048576: NARROWER than '..Said'. Prove '..Said' where nothing that the law and all that it calls make is longer than what came in: it says more and counts as full. Else prove '..UptoSaid'. A law counts once. -/
mutual
def uptoBulk {H : Type} : DataW H → Nat
  | .lit (.string bytes) => bytes.length + 1
  | .lit _ => 1
  | .nil => 1
  | .ptr d => uptoBulk d + 1
  | .slice elems spare => uptoBulkAll elems + uptoBulkAll spare + 1
  | .agg parts => uptoBulkAll parts + 1
  | .iface _ d => uptoBulk d + 1
  | .map entries => uptoBulkEntries entries + 1
  | .held _ => 1
def uptoBulkAll {H : Type} : List (DataW H) → Nat
  | [] => 0
  | d :: r => uptoBulk d + uptoBulkAll r
def uptoBulkEntries {H : Type} : List (Lit × DataW H) → Nat
  | [] => 0
  | x :: r => uptoBulkEntry x + uptoBulkEntries r
def uptoBulkEntry {H : Type} : Lit × DataW H → Nat
  | (.string bytes, d) => bytes.length + uptoBulk d + 1
  | (_, d) => uptoBulk d + 1
 end
def uptoSmall : (H : Type) → List (DataW H) → Bool := fun _ ds => decide (uptoBulkAll ds ≤ 1048576)
def OpenSpec.upto (s : _root_.Go.ChangeSpec) : _root_.Go.OpenSpec := { _root_.Go.OpenSpec.ofChange s with cond := some uptoSmall }

/-- 'cloisonnelaw24.CutNil', WHERE WHAT IT READS IS OF BULK AT MOST 1048576: true; the input reads as it did. -/
def cutNilUptoRow : OpenClaim := { program := "ytkgaejjkmkfobaagreatdoor", sum := "c20f30efa175cd0e05f89c05c83745e02d520a8e8376f06df00cc88684e5f9a3", func := "cloisonne/cloisonnelaw24.CutNil", spec := "cutNil", inPlace := ["internal/bytealg.IndexByteString", "internal/bytealg.IndexString", "internal/abi.NoEscape", "math.Float64frombits", "math.Float64bits", "slices.overlaps[string]", "slices.overlaps[int]", "internal/bytealg.abigen_runtime_cmpstring", "slices.overlaps[cloisonne/api.Write]", "math.archFloor", "math.archTrunc"], unfollowed := true, recurses := true, named := ["unicode/utf8.first", "unicode/utf8.acceptRanges", "internal/bytealg.MaxLen"], apart := false, laid := [("unicode/utf8.acceptRanges", laid_unicode_utf8_acceptRanges), ("unicode/utf8.first", laid_unicode_utf8_first)], narrowed := true }
def CutNilUptoSaid : Prop := cutNilUptoRow.holds Tryz.pinned (OpenSpec.upto cutNilSpec)

/-- 'cloisonnelaw22.DeskNil', WHERE WHAT IT READS IS OF BULK AT MOST 1048576: true; the input reads as it did. -/
def deskNilUptoRow : OpenClaim := { program := "ytkgaejjkmkfobaagreatdoor", sum := "c20f30efa175cd0e05f89c05c83745e02d520a8e8376f06df00cc88684e5f9a3", func := "cloisonne/cloisonnelaw22.DeskNil", spec := "deskNil", inPlace := ["internal/bytealg.IndexByteString", "internal/bytealg.IndexString", "internal/abi.NoEscape", "math.Float64frombits", "math.Float64bits", "slices.overlaps[string]", "slices.overlaps[int]", "internal/bytealg.abigen_runtime_cmpstring", "slices.overlaps[cloisonne/api.Write]", "math.archFloor", "math.archTrunc"], unfollowed := true, recurses := true, named := ["unicode/utf8.first", "unicode/utf8.acceptRanges", "internal/bytealg.MaxLen"], apart := false, laid := [("unicode/utf8.acceptRanges", laid_unicode_utf8_acceptRanges), ("unicode/utf8.first", laid_unicode_utf8_first)], narrowed := true }
def DeskNilUptoSaid : Prop := deskNilUptoRow.holds Tryz.pinned (OpenSpec.upto deskNilSpec)

/-- 'cloisonnelaw23.WatchNil', WHERE WHAT IT READS IS OF BULK AT MOST 1048576: true; the input reads as it did. -/
def watchNilUptoRow : OpenClaim := { program := "ytkgaejjkmkfobaagreatdoor", sum := "c20f30efa175cd0e05f89c05c83745e02d520a8e8376f06df00cc88684e5f9a3", func := "cloisonne/cloisonnelaw23.WatchNil", spec := "watchNil", inPlace := ["internal/bytealg.IndexByteString", "internal/bytealg.IndexString", "internal/abi.NoEscape", "math.Float64frombits", "math.Float64bits", "slices.overlaps[string]", "slices.overlaps[int]", "internal/bytealg.abigen_runtime_cmpstring", "slices.overlaps[cloisonne/api.Write]", "math.archFloor", "math.archTrunc"], unfollowed := true, recurses := true, named := ["unicode/utf8.first", "unicode/utf8.acceptRanges", "internal/bytealg.MaxLen"], apart := false, laid := [("unicode/utf8.acceptRanges", laid_unicode_utf8_acceptRanges), ("unicode/utf8.first", laid_unicode_utf8_first)], narrowed := true }
def WatchNilUptoSaid : Prop := watchNilUptoRow.holds Tryz.pinned (OpenSpec.upto watchNilSpec)

end Rows
end Go.Proofs.YtkgaejjkmkfobaaGreatDoor
