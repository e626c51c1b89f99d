/- The run of cloisonne/cloisonnelaw31.awake answers true, of every world. -/
import Derived.Test.YtgamdeboonigeaaGreatDoorMF2
import Derived.Test.YtgamdeboonigeaaGreatDoorMF3
import Derived.Test.YtgamdeboonigeaaGreatDoorMF9
import Derived.Test.YtgamdeboonigeaaGreatDoorMF10
import Derived.Test.YtgamdeboonigeaaGreatDoorMF13
import Derived.Test.YtgamdeboonigeaaGreatDoorMF16
import Derived.Test.YtgamdeboonigeaaGreatDoorMF25
namespace Go.Ev
open Go.Proofs
theorem F_runs : saysTrue ((evKI Tryz.prog (orRec mF2.ask (orRec mF3.ask (orRec mF9.ask (orRec mF10.ask (orRec mF13.ask (orRec mF16.ask (orRec mF25.ask (flushI Tryz.prog fl)))))))) 100000).1 4 #[] (memCS 0 [])) = true := by decide +kernel
theorem F_true : SaysTrue Tryz.prog 4 := fun w => true_of_run (evKI_sound hmix (orRec_ok mF2_ok (orRec_ok mF3_ok (orRec_ok mF9_ok (orRec_ok mF10_ok (orRec_ok mF13_ok (orRec_ok mF16_ok (orRec_ok mF25_ok fl_ok))))))) 100000).1 F_runs w
end Go.Ev
