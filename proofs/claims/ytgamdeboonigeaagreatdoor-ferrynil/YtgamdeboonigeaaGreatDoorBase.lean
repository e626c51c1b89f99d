/- What the evaluator is asked of this program ahead; and the one function with a range over a map, Flush. -/
import Derived.Test.YtgamdeboonigeaaGreatDoorFit0
import Derived.Test.YtgamdeboonigeaaGreatDoorFit1
import Derived.Test.YtgamdeboonigeaaGreatDoorFit2
import Derived.Test.YtgamdeboonigeaaGreatDoorFit3
import Derived.KernelRfl
namespace Go.Ev
open Go.Proofs
theorem clean : cleanAll Tryz.prog = true := by decide +kernel
instance : Clean Tryz.prog := Clean.of clean
noncomputable def used : List FuncId := used0 ++ used1 ++ used2 ++ used3
@[reducible] noncomputable def drawn : Drawn Tryz.prog := Drawn.of Tryz.prog used 56016748906665775470124540134353319951695102748562482500128855424202599392960742998482867202771581268631418475696841390544096271545673094445063242433685541093072 (by decide +kernel) (fitAll_append (fitAll_append (fitAll_append fit0 fit1) fit2) fit3)
noncomputable instance : Drawn Tryz.prog := drawn
theorem hmix : Tryz.prog.follows .mixedOrders = true := by decide +kernel
noncomputable def fl : FlushSh := mkFlush 282 Tryz.f282 40 129 130 126 105 9
noncomputable def flB : Code := seqL (seqR (seqR (bodyOf Tryz.f282)))
noncomputable def fl6 : Array Oper := match flB with
  | .seq _ (.block _ (.loop (.seq _ (.seq _ (.block _ (.seq (.region _ o _) _)))))) => o
  | _ => #[]
noncomputable def fl7 : Array Oper := match flB with
  | .seq _ (.block _ (.loop (.seq _ (.seq _ (.block _ (.seq _ (.region _ o _))))))) => o
  | _ => #[]
noncomputable def fl5 : Array Oper := match flB with
  | .seq _ (.block _ (.loop (.seq (.region _ o _) _))) => o
  | _ => #[]
theorem fl_ok : RecOk Tryz.prog (flushI Tryz.prog fl) :=
  flushI_ok (s := fl) hmix (b0 := 0) (b1 := 1) (i4 := 4) (i5 := 5) (i6 := 6) (i7 := 7) (ops6 := fl6) (ops7 := fl7)
    (y4 := (oAt fl.ops4 7).type) (p4 := (oAt fl.ops4 7).pos) (e4 := (oAt fl.ops4 7).after) (y22 := (oAt fl5 0).type) (p22 := (oAt fl5 0).pos) (e22 := (oAt fl5 0).after) (y23 := (oAt fl5 1).type) (p23 := (oAt fl5 1).pos) (e23 := (oAt fl5 1).after)
    (yE := (oAt fl6 0).type) (pE := (oAt fl6 0).pos) (eE := (oAt fl6 0).after) (y6 := fun i => (oAt fl6 (i + 1)).type) (p6 := fun i => (oAt fl6 (i + 1)).pos) (e6 := fun i => (oAt fl6 (i + 1)).after)
    (y7 := fun i => (oAt fl7 i).type) (p7 := fun i => (oAt fl7 i).pos) (e7 := fun i => (oAt fl7 i).after)
    Tryz.func282 Tryz.ntmps282 (by kernel_rfl) (by kernel_rfl) Tryz.underlying130 (by kernel_rfl) (by kernel_rfl) (by kernel_rfl) (by kernel_rfl) (by kernel_rfl)
end Go.Ev
