/- The run of cloisonne/cloisonnelaw23.awake answers true, of every world. -/
import Derived.Test.YtkgaejjkmkfobaaGreatDoorMW2
import Derived.Test.YtkgaejjkmkfobaaGreatDoorMW3
import Derived.Test.YtkgaejjkmkfobaaGreatDoorMW4
import Derived.Test.YtkgaejjkmkfobaaGreatDoorMW5
import Derived.Test.YtkgaejjkmkfobaaGreatDoorMW6
import Derived.Test.YtkgaejjkmkfobaaGreatDoorMW7
import Derived.Test.YtkgaejjkmkfobaaGreatDoorMW8
import Derived.Test.YtkgaejjkmkfobaaGreatDoorMW9
import Derived.Test.YtkgaejjkmkfobaaGreatDoorMW10
import Derived.Test.YtkgaejjkmkfobaaGreatDoorMW11
import Derived.Test.YtkgaejjkmkfobaaGreatDoorMW12
import Derived.Test.YtkgaejjkmkfobaaGreatDoorMW13
import Derived.Test.YtkgaejjkmkfobaaGreatDoorMW14
import Derived.Test.YtkgaejjkmkfobaaGreatDoorMW19
namespace Go.Ev
open Go.Proofs
theorem W_runs : saysTrue ((evKI Tryz.prog (orRec mW2.ask (orRec mW3.ask (orRec mW4.ask (orRec mW5.ask (orRec mW6.ask (orRec mW7.ask (orRec mW8.ask (orRec mW9.ask (orRec mW10.ask (orRec mW11.ask (orRec mW12.ask (orRec mW13.ask (orRec mW14.ask (orRec mW19.ask (flushI Tryz.prog fl))))))))))))))) 100000).1 27 #[] (memCS 0 [])) = true := by decide +kernel
theorem W_true : SaysTrue Tryz.prog 27 := fun w => true_of_run (evKI_sound hmix (orRec_ok mW2_ok (orRec_ok mW3_ok (orRec_ok mW4_ok (orRec_ok mW5_ok (orRec_ok mW6_ok (orRec_ok mW7_ok (orRec_ok mW8_ok (orRec_ok mW9_ok (orRec_ok mW10_ok (orRec_ok mW11_ok (orRec_ok mW12_ok (orRec_ok mW13_ok (orRec_ok mW14_ok (orRec_ok mW19_ok fl_ok)))))))))))))) 100000).1 W_runs w
end Go.Ev
