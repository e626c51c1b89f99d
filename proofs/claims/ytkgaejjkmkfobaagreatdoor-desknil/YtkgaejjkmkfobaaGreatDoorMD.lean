/- The run of cloisonne/cloisonnelaw22.awake answers true, of every world. -/
import Derived.Test.YtkgaejjkmkfobaaGreatDoorMD2
import Derived.Test.YtkgaejjkmkfobaaGreatDoorMD3
namespace Go.Ev
open Go.Proofs
theorem D_runs : saysTrue ((evKI Tryz.prog (orRec mD2.ask (orRec mD3.ask (flushI Tryz.prog fl))) 100000).1 14 #[] (memCS 0 [])) = true := by decide +kernel
theorem D_true : SaysTrue Tryz.prog 14 := fun w => true_of_run (evKI_sound hmix (orRec_ok mD2_ok (orRec_ok mD3_ok fl_ok)) 100000).1 D_runs w
end Go.Ev
