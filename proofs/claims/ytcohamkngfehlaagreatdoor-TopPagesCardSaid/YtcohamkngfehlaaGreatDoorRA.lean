import Derived.Test.YtcohamkngfehlaaGreatDoorRR0
import Derived.Test.YtcohamkngfehlaaGreatDoorRR1
import Derived.Test.YtcohamkngfehlaaGreatDoorRR2
import Derived.Test.YtcohamkngfehlaaGreatDoorRR3
import Derived.Test.YtcohamkngfehlaaGreatDoorRR4
import Derived.Test.YtcohamkngfehlaaGreatDoorRR5
import Derived.Test.YtcohamkngfehlaaGreatDoorRR6
import Derived.Test.YtcohamkngfehlaaGreatDoorRR7
import Derived.Test.YtcohamkngfehlaaGreatDoorRR8
import Derived.Test.YtcohamkngfehlaaGreatDoorRR9
import Derived.Test.YtcohamkngfehlaaGreatDoorRR10
import Derived.Test.YtcohamkngfehlaaGreatDoorRR11
import Derived.Test.YtcohamkngfehlaaGreatDoorRR12
import Derived.Test.YtcohamkngfehlaaGreatDoorRR13
import Derived.Test.YtcohamkngfehlaaGreatDoorRR14
import Derived.Test.YtcohamkngfehlaaGreatDoorRR15
import Derived.Test.YtcohamkngfehlaaGreatDoorRR16
import Derived.Test.YtcohamkngfehlaaGreatDoorRR17
set_option linter.unusedSimpArgs false
set_option linter.unusedVariables false
set_option maxRecDepth 100000
noncomputable section
namespace Go.Ev.X
open Go Go.Ev Go.Proofs
theorem rp:∀ n c b,okC n c->zR n c b=0
 | 0,0,true,_=>rp0_0t
 | 0,0,false,_=>rp0_0f
 | 1,0,true,_=>rp1_0t
 | 1,0,false,_=>rp1_0f
 | 1,1,true,_=>rp1_1t
 | 1,1,false,_=>rp1_1f
 | 1,2,true,_=>rp1_2t
 | 1,2,false,_=>rp1_2f
 | 1,3,true,_=>rp1_3t
 | 1,3,false,_=>rp1_3f
 | 1,4,true,_=>rp1_4t
 | 1,4,false,_=>rp1_4f
 | 2,0,true,_=>rp2_0t
 | 2,0,false,_=>rp2_0f
 | 2,1,true,_=>rp2_1t
 | 2,1,false,_=>rp2_1f
 | 2,2,true,_=>rp2_2t
 | 2,2,false,_=>rp2_2f
 | 2,3,true,_=>rp2_3t
 | 2,3,false,_=>rp2_3f
 | 2,4,true,_=>rp2_4t
 | 2,4,false,_=>rp2_4f
 | 3,0,true,_=>rp3_0t
 | 3,0,false,_=>rp3_0f
 | 3,1,true,_=>rp3_1t
 | 3,1,false,_=>rp3_1f
 | 3,2,true,_=>rp3_2t
 | 3,2,false,_=>rp3_2f
 | 3,3,true,_=>rp3_3t
 | 3,3,false,_=>rp3_3f
 | 3,4,true,_=>rp3_4t
 | 3,4,false,_=>rp3_4f
 | 4,0,true,_=>rp4_0t
 | 4,0,false,_=>rp4_0f
 | 4,1,true,_=>rp4_1t
 | 4,1,false,_=>rp4_1f
 | 4,2,true,_=>rp4_2t
 | 4,2,false,_=>rp4_2f
 | 4,3,true,_=>rp4_3t
 | 4,3,false,_=>rp4_3f
 | 4,4,true,_=>rp4_4t
 | 4,4,false,_=>rp4_4f
 | 5,0,true,_=>rp5_0t
 | 5,0,false,_=>rp5_0f
 | 5,1,true,_=>rp5_1t
 | 5,1,false,_=>rp5_1f
 | 5,2,true,_=>rp5_2t
 | 5,2,false,_=>rp5_2f
 | 5,3,true,_=>rp5_3t
 | 5,3,false,_=>rp5_3f
 | 5,4,true,_=>rp5_4t
 | 5,4,false,_=>rp5_4f
 | 6,0,true,_=>rp6_0t
 | 6,0,false,_=>rp6_0f
 | 6,1,true,_=>rp6_1t
 | 6,1,false,_=>rp6_1f
 | 6,2,true,_=>rp6_2t
 | 6,2,false,_=>rp6_2f
 | 6,3,true,_=>rp6_3t
 | 6,3,false,_=>rp6_3f
 | 6,4,true,_=>rp6_4t
 | 6,4,false,_=>rp6_4f
 | 7,0,true,_=>rp7_0t
 | 7,0,false,_=>rp7_0f
 | 7,1,true,_=>rp7_1t
 | 7,1,false,_=>rp7_1f
 | 7,2,true,_=>rp7_2t
 | 7,2,false,_=>rp7_2f
 | 7,3,true,_=>rp7_3t
 | 7,3,false,_=>rp7_3f
 | 7,4,true,_=>rp7_4t
 | 7,4,false,_=>rp7_4f
 | 8,0,true,_=>rp8_0t
 | 8,0,false,_=>rp8_0f
 | 8,1,true,_=>rp8_1t
 | 8,1,false,_=>rp8_1f
 | 8,2,true,_=>rp8_2t
 | 8,2,false,_=>rp8_2f
 | 8,3,true,_=>rp8_3t
 | 8,3,false,_=>rp8_3f
 | 0,k+1,_,h=>absurd (h.2.2.1 rfl) (by omega)
 | 8,4,_,h=>absurd (h.2.2.2 rfl) (by omega)
 | 1,k+5,_,h=>absurd h.2.1 (by omega)
 | 2,k+5,_,h=>absurd h.2.1 (by omega)
 | 3,k+5,_,h=>absurd h.2.1 (by omega)
 | 4,k+5,_,h=>absurd h.2.1 (by omega)
 | 5,k+5,_,h=>absurd h.2.1 (by omega)
 | 6,k+5,_,h=>absurd h.2.1 (by omega)
 | 7,k+5,_,h=>absurd h.2.1 (by omega)
 | 8,k+5,_,h=>absurd h.2.1 (by omega)
 | n+9,k,_,h=>absurd h.1 (by omega)
end Go.Ev.X
end
