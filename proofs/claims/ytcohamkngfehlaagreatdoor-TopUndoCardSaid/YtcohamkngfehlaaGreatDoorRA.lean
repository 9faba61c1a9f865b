import Derived.Test.YtcohamkngfehlaaGreatDoorRR0
import Derived.Test.YtcohamkngfehlaaGreatDoorRR1
import Derived.Test.YtcohamkngfehlaaGreatDoorRR2
import Derived.Test.YtcohamkngfehlaaGreatDoorRR3
import Derived.Test.YtcohamkngfehlaaGreatDoorRR4
import Derived.Test.YtcohamkngfehlaaGreatDoorRR5
import Derived.Test.YtcohamkngfehlaaGreatDoorRR6
import Derived.Test.YtcohamkngfehlaaGreatDoorRR7
import Derived.Test.YtcohamkngfehlaaGreatDoorRR8
import Derived.Test.YtcohamkngfehlaaGreatDoorRR9
set_option linter.unusedSimpArgs false
set_option linter.unusedVariables false
set_option maxRecDepth 100000
noncomputable section
namespace Go.Ev.X
open Go Go.Ev Go.Proofs
theorem rb:∀ x,x<30->jH x=0
 | 0,_=>rb0
 | 1,_=>rb1
 | 2,_=>rb2
 | 3,_=>rb3
 | 4,_=>rb4
 | 5,_=>rb5
 | 6,_=>rb6
 | 7,_=>rb7
 | 8,_=>rb8
 | 9,_=>rb9
 | 10,_=>rb10
 | 11,_=>rb11
 | 12,_=>rb12
 | 13,_=>rb13
 | 14,_=>rb14
 | 15,_=>rb15
 | 16,_=>rb16
 | 17,_=>rb17
 | 18,_=>rb18
 | 19,_=>rb19
 | 20,_=>rb20
 | 21,_=>rb21
 | 22,_=>rb22
 | 23,_=>rb23
 | 24,_=>rb24
 | 25,_=>rb25
 | 26,_=>rb26
 | 27,_=>rb27
 | 28,_=>rb28
 | 29,_=>rb29
 | n+30,h=>absurd h (by omega)
end Go.Ev.X
end
