import Derived.Test.YtckgidiokbofiaaGreatDoorRR0
import Derived.Test.YtckgidiokbofiaaGreatDoorRR1
import Derived.Test.YtckgidiokbofiaaGreatDoorRR2
import Derived.Test.YtckgidiokbofiaaGreatDoorRR3
import Derived.Test.YtckgidiokbofiaaGreatDoorRR4
import Derived.Test.YtckgidiokbofiaaGreatDoorRR5
import Derived.Test.YtckgidiokbofiaaGreatDoorRR6
import Derived.Test.YtckgidiokbofiaaGreatDoorRR7
import Derived.Test.YtckgidiokbofiaaGreatDoorRR8
import Derived.Test.YtckgidiokbofiaaGreatDoorRR9
import Derived.Test.YtckgidiokbofiaaGreatDoorRR10
import Derived.Test.YtckgidiokbofiaaGreatDoorRR11
import Derived.Test.YtckgidiokbofiaaGreatDoorRR12
import Derived.Test.YtckgidiokbofiaaGreatDoorRR13
import Derived.Test.YtckgidiokbofiaaGreatDoorRR14
import Derived.Test.YtckgidiokbofiaaGreatDoorRR15
import Derived.Test.YtckgidiokbofiaaGreatDoorRR16
import Derived.Test.YtckgidiokbofiaaGreatDoorRR17
import Derived.Test.YtckgidiokbofiaaGreatDoorRR18
import Derived.Test.YtckgidiokbofiaaGreatDoorRR19
set_option linter.unusedSimpArgs false
set_option linter.unusedVariables false
set_option maxRecDepth 100000
noncomputable section
namespace Go.Ev.X
open Go Go.Ev Go.Proofs
structure RowR (k n:Nat):Prop where
 a:zx k n=0
 b:zw k n=0
 c:zv k n=0
 d:zu k n=0
theorem rows:∀ k n,k<7->n<16->RowR k (n+1)
 | 0,0,_,_=>⟨ra0_1,rb0_1,rc0_1,rd0_1⟩
 | 0,1,_,_=>⟨ra0_2,rb0_2,rc0_2,rd0_2⟩
 | 0,2,_,_=>⟨ra0_3,rb0_3,rc0_3,rd0_3⟩
 | 0,3,_,_=>⟨ra0_4,rb0_4,rc0_4,rd0_4⟩
 | 0,4,_,_=>⟨ra0_5,rb0_5,rc0_5,rd0_5⟩
 | 0,5,_,_=>⟨ra0_6,rb0_6,rc0_6,rd0_6⟩
 | 0,6,_,_=>⟨ra0_7,rb0_7,rc0_7,rd0_7⟩
 | 0,7,_,_=>⟨ra0_8,rb0_8,rc0_8,rd0_8⟩
 | 0,8,_,_=>⟨ra0_9,rb0_9,rc0_9,rd0_9⟩
 | 0,9,_,_=>⟨ra0_10,rb0_10,rc0_10,rd0_10⟩
 | 0,10,_,_=>⟨ra0_11,rb0_11,rc0_11,rd0_11⟩
 | 0,11,_,_=>⟨ra0_12,rb0_12,rc0_12,rd0_12⟩
 | 0,12,_,_=>⟨ra0_13,rb0_13,rc0_13,rd0_13⟩
 | 0,13,_,_=>⟨ra0_14,rb0_14,rc0_14,rd0_14⟩
 | 0,14,_,_=>⟨ra0_15,rb0_15,rc0_15,rd0_15⟩
 | 0,15,_,_=>⟨ra0_16,rb0_16,rc0_16,rd0_16⟩
 | 1,0,_,_=>⟨ra1_1,rb1_1,rc1_1,rd1_1⟩
 | 1,1,_,_=>⟨ra1_2,rb1_2,rc1_2,rd1_2⟩
 | 1,2,_,_=>⟨ra1_3,rb1_3,rc1_3,rd1_3⟩
 | 1,3,_,_=>⟨ra1_4,rb1_4,rc1_4,rd1_4⟩
 | 1,4,_,_=>⟨ra1_5,rb1_5,rc1_5,rd1_5⟩
 | 1,5,_,_=>⟨ra1_6,rb1_6,rc1_6,rd1_6⟩
 | 1,6,_,_=>⟨ra1_7,rb1_7,rc1_7,rd1_7⟩
 | 1,7,_,_=>⟨ra1_8,rb1_8,rc1_8,rd1_8⟩
 | 1,8,_,_=>⟨ra1_9,rb1_9,rc1_9,rd1_9⟩
 | 1,9,_,_=>⟨ra1_10,rb1_10,rc1_10,rd1_10⟩
 | 1,10,_,_=>⟨ra1_11,rb1_11,rc1_11,rd1_11⟩
 | 1,11,_,_=>⟨ra1_12,rb1_12,rc1_12,rd1_12⟩
 | 1,12,_,_=>⟨ra1_13,rb1_13,rc1_13,rd1_13⟩
 | 1,13,_,_=>⟨ra1_14,rb1_14,rc1_14,rd1_14⟩
 | 1,14,_,_=>⟨ra1_15,rb1_15,rc1_15,rd1_15⟩
 | 1,15,_,_=>⟨ra1_16,rb1_16,rc1_16,rd1_16⟩
 | 2,0,_,_=>⟨ra2_1,rb2_1,rc2_1,rd2_1⟩
 | 2,1,_,_=>⟨ra2_2,rb2_2,rc2_2,rd2_2⟩
 | 2,2,_,_=>⟨ra2_3,rb2_3,rc2_3,rd2_3⟩
 | 2,3,_,_=>⟨ra2_4,rb2_4,rc2_4,rd2_4⟩
 | 2,4,_,_=>⟨ra2_5,rb2_5,rc2_5,rd2_5⟩
 | 2,5,_,_=>⟨ra2_6,rb2_6,rc2_6,rd2_6⟩
 | 2,6,_,_=>⟨ra2_7,rb2_7,rc2_7,rd2_7⟩
 | 2,7,_,_=>⟨ra2_8,rb2_8,rc2_8,rd2_8⟩
 | 2,8,_,_=>⟨ra2_9,rb2_9,rc2_9,rd2_9⟩
 | 2,9,_,_=>⟨ra2_10,rb2_10,rc2_10,rd2_10⟩
 | 2,10,_,_=>⟨ra2_11,rb2_11,rc2_11,rd2_11⟩
 | 2,11,_,_=>⟨ra2_12,rb2_12,rc2_12,rd2_12⟩
 | 2,12,_,_=>⟨ra2_13,rb2_13,rc2_13,rd2_13⟩
 | 2,13,_,_=>⟨ra2_14,rb2_14,rc2_14,rd2_14⟩
 | 2,14,_,_=>⟨ra2_15,rb2_15,rc2_15,rd2_15⟩
 | 2,15,_,_=>⟨ra2_16,rb2_16,rc2_16,rd2_16⟩
 | 3,0,_,_=>⟨ra3_1,rb3_1,rc3_1,rd3_1⟩
 | 3,1,_,_=>⟨ra3_2,rb3_2,rc3_2,rd3_2⟩
 | 3,2,_,_=>⟨ra3_3,rb3_3,rc3_3,rd3_3⟩
 | 3,3,_,_=>⟨ra3_4,rb3_4,rc3_4,rd3_4⟩
 | 3,4,_,_=>⟨ra3_5,rb3_5,rc3_5,rd3_5⟩
 | 3,5,_,_=>⟨ra3_6,rb3_6,rc3_6,rd3_6⟩
 | 3,6,_,_=>⟨ra3_7,rb3_7,rc3_7,rd3_7⟩
 | 3,7,_,_=>⟨ra3_8,rb3_8,rc3_8,rd3_8⟩
 | 3,8,_,_=>⟨ra3_9,rb3_9,rc3_9,rd3_9⟩
 | 3,9,_,_=>⟨ra3_10,rb3_10,rc3_10,rd3_10⟩
 | 3,10,_,_=>⟨ra3_11,rb3_11,rc3_11,rd3_11⟩
 | 3,11,_,_=>⟨ra3_12,rb3_12,rc3_12,rd3_12⟩
 | 3,12,_,_=>⟨ra3_13,rb3_13,rc3_13,rd3_13⟩
 | 3,13,_,_=>⟨ra3_14,rb3_14,rc3_14,rd3_14⟩
 | 3,14,_,_=>⟨ra3_15,rb3_15,rc3_15,rd3_15⟩
 | 3,15,_,_=>⟨ra3_16,rb3_16,rc3_16,rd3_16⟩
 | 4,0,_,_=>⟨ra4_1,rb4_1,rc4_1,rd4_1⟩
 | 4,1,_,_=>⟨ra4_2,rb4_2,rc4_2,rd4_2⟩
 | 4,2,_,_=>⟨ra4_3,rb4_3,rc4_3,rd4_3⟩
 | 4,3,_,_=>⟨ra4_4,rb4_4,rc4_4,rd4_4⟩
 | 4,4,_,_=>⟨ra4_5,rb4_5,rc4_5,rd4_5⟩
 | 4,5,_,_=>⟨ra4_6,rb4_6,rc4_6,rd4_6⟩
 | 4,6,_,_=>⟨ra4_7,rb4_7,rc4_7,rd4_7⟩
 | 4,7,_,_=>⟨ra4_8,rb4_8,rc4_8,rd4_8⟩
 | 4,8,_,_=>⟨ra4_9,rb4_9,rc4_9,rd4_9⟩
 | 4,9,_,_=>⟨ra4_10,rb4_10,rc4_10,rd4_10⟩
 | 4,10,_,_=>⟨ra4_11,rb4_11,rc4_11,rd4_11⟩
 | 4,11,_,_=>⟨ra4_12,rb4_12,rc4_12,rd4_12⟩
 | 4,12,_,_=>⟨ra4_13,rb4_13,rc4_13,rd4_13⟩
 | 4,13,_,_=>⟨ra4_14,rb4_14,rc4_14,rd4_14⟩
 | 4,14,_,_=>⟨ra4_15,rb4_15,rc4_15,rd4_15⟩
 | 4,15,_,_=>⟨ra4_16,rb4_16,rc4_16,rd4_16⟩
 | 5,0,_,_=>⟨ra5_1,rb5_1,rc5_1,rd5_1⟩
 | 5,1,_,_=>⟨ra5_2,rb5_2,rc5_2,rd5_2⟩
 | 5,2,_,_=>⟨ra5_3,rb5_3,rc5_3,rd5_3⟩
 | 5,3,_,_=>⟨ra5_4,rb5_4,rc5_4,rd5_4⟩
 | 5,4,_,_=>⟨ra5_5,rb5_5,rc5_5,rd5_5⟩
 | 5,5,_,_=>⟨ra5_6,rb5_6,rc5_6,rd5_6⟩
 | 5,6,_,_=>⟨ra5_7,rb5_7,rc5_7,rd5_7⟩
 | 5,7,_,_=>⟨ra5_8,rb5_8,rc5_8,rd5_8⟩
 | 5,8,_,_=>⟨ra5_9,rb5_9,rc5_9,rd5_9⟩
 | 5,9,_,_=>⟨ra5_10,rb5_10,rc5_10,rd5_10⟩
 | 5,10,_,_=>⟨ra5_11,rb5_11,rc5_11,rd5_11⟩
 | 5,11,_,_=>⟨ra5_12,rb5_12,rc5_12,rd5_12⟩
 | 5,12,_,_=>⟨ra5_13,rb5_13,rc5_13,rd5_13⟩
 | 5,13,_,_=>⟨ra5_14,rb5_14,rc5_14,rd5_14⟩
 | 5,14,_,_=>⟨ra5_15,rb5_15,rc5_15,rd5_15⟩
 | 5,15,_,_=>⟨ra5_16,rb5_16,rc5_16,rd5_16⟩
 | 6,0,_,_=>⟨ra6_1,rb6_1,rc6_1,rd6_1⟩
 | 6,1,_,_=>⟨ra6_2,rb6_2,rc6_2,rd6_2⟩
 | 6,2,_,_=>⟨ra6_3,rb6_3,rc6_3,rd6_3⟩
 | 6,3,_,_=>⟨ra6_4,rb6_4,rc6_4,rd6_4⟩
 | 6,4,_,_=>⟨ra6_5,rb6_5,rc6_5,rd6_5⟩
 | 6,5,_,_=>⟨ra6_6,rb6_6,rc6_6,rd6_6⟩
 | 6,6,_,_=>⟨ra6_7,rb6_7,rc6_7,rd6_7⟩
 | 6,7,_,_=>⟨ra6_8,rb6_8,rc6_8,rd6_8⟩
 | 6,8,_,_=>⟨ra6_9,rb6_9,rc6_9,rd6_9⟩
 | 6,9,_,_=>⟨ra6_10,rb6_10,rc6_10,rd6_10⟩
 | 6,10,_,_=>⟨ra6_11,rb6_11,rc6_11,rd6_11⟩
 | 6,11,_,_=>⟨ra6_12,rb6_12,rc6_12,rd6_12⟩
 | 6,12,_,_=>⟨ra6_13,rb6_13,rc6_13,rd6_13⟩
 | 6,13,_,_=>⟨ra6_14,rb6_14,rc6_14,rd6_14⟩
 | 6,14,_,_=>⟨ra6_15,rb6_15,rc6_15,rd6_15⟩
 | 6,15,_,_=>⟨ra6_16,rb6_16,rc6_16,rd6_16⟩
 | 0,n+16,_,h=>absurd h (by omega)
 | 1,n+16,_,h=>absurd h (by omega)
 | 2,n+16,_,h=>absurd h (by omega)
 | 3,n+16,_,h=>absurd h (by omega)
 | 4,n+16,_,h=>absurd h (by omega)
 | 5,n+16,_,h=>absurd h (by omega)
 | 6,n+16,_,h=>absurd h (by omega)
 | k+7,n,h,_=>absurd h (by omega)
theorem xr:∀ k j d,k<7->d<3->j+d<16->(xmX k j d).run cX 18 zc=0
 | 0,0,0,_,_,_=>xr0_0_0
 | 0,0,1,_,_,_=>xr0_0_1
 | 0,0,2,_,_,_=>xr0_0_2
 | 0,1,0,_,_,_=>xr0_1_0
 | 0,1,1,_,_,_=>xr0_1_1
 | 0,1,2,_,_,_=>xr0_1_2
 | 0,2,0,_,_,_=>xr0_2_0
 | 0,2,1,_,_,_=>xr0_2_1
 | 0,2,2,_,_,_=>xr0_2_2
 | 0,3,0,_,_,_=>xr0_3_0
 | 0,3,1,_,_,_=>xr0_3_1
 | 0,3,2,_,_,_=>xr0_3_2
 | 0,4,0,_,_,_=>xr0_4_0
 | 0,4,1,_,_,_=>xr0_4_1
 | 0,4,2,_,_,_=>xr0_4_2
 | 0,5,0,_,_,_=>xr0_5_0
 | 0,5,1,_,_,_=>xr0_5_1
 | 0,5,2,_,_,_=>xr0_5_2
 | 0,6,0,_,_,_=>xr0_6_0
 | 0,6,1,_,_,_=>xr0_6_1
 | 0,6,2,_,_,_=>xr0_6_2
 | 0,7,0,_,_,_=>xr0_7_0
 | 0,7,1,_,_,_=>xr0_7_1
 | 0,7,2,_,_,_=>xr0_7_2
 | 0,8,0,_,_,_=>xr0_8_0
 | 0,8,1,_,_,_=>xr0_8_1
 | 0,8,2,_,_,_=>xr0_8_2
 | 0,9,0,_,_,_=>xr0_9_0
 | 0,9,1,_,_,_=>xr0_9_1
 | 0,9,2,_,_,_=>xr0_9_2
 | 0,10,0,_,_,_=>ztR
 | 0,10,1,_,_,_=>ztQ
 | 0,10,2,_,_,_=>ztP
 | 0,11,0,_,_,_=>ztO
 | 0,11,1,_,_,_=>ztN
 | 0,11,2,_,_,_=>ztM
 | 0,12,0,_,_,_=>ztL
 | 0,12,1,_,_,_=>ztK
 | 0,12,2,_,_,_=>ztJ
 | 0,13,0,_,_,_=>ztI
 | 0,13,1,_,_,_=>ztH
 | 0,13,2,_,_,_=>ztG
 | 0,14,0,_,_,_=>ztF
 | 0,14,1,_,_,_=>ztE
 | 0,15,0,_,_,_=>ztD
 | 1,0,0,_,_,_=>xr1_0_0
 | 1,0,1,_,_,_=>xr1_0_1
 | 1,0,2,_,_,_=>xr1_0_2
 | 1,1,0,_,_,_=>xr1_1_0
 | 1,1,1,_,_,_=>xr1_1_1
 | 1,1,2,_,_,_=>xr1_1_2
 | 1,2,0,_,_,_=>xr1_2_0
 | 1,2,1,_,_,_=>xr1_2_1
 | 1,2,2,_,_,_=>xr1_2_2
 | 1,3,0,_,_,_=>xr1_3_0
 | 1,3,1,_,_,_=>xr1_3_1
 | 1,3,2,_,_,_=>xr1_3_2
 | 1,4,0,_,_,_=>xr1_4_0
 | 1,4,1,_,_,_=>xr1_4_1
 | 1,4,2,_,_,_=>xr1_4_2
 | 1,5,0,_,_,_=>xr1_5_0
 | 1,5,1,_,_,_=>xr1_5_1
 | 1,5,2,_,_,_=>xr1_5_2
 | 1,6,0,_,_,_=>xr1_6_0
 | 1,6,1,_,_,_=>xr1_6_1
 | 1,6,2,_,_,_=>xr1_6_2
 | 1,7,0,_,_,_=>xr1_7_0
 | 1,7,1,_,_,_=>xr1_7_1
 | 1,7,2,_,_,_=>xr1_7_2
 | 1,8,0,_,_,_=>xr1_8_0
 | 1,8,1,_,_,_=>xr1_8_1
 | 1,8,2,_,_,_=>xr1_8_2
 | 1,9,0,_,_,_=>xr1_9_0
 | 1,9,1,_,_,_=>xr1_9_1
 | 1,9,2,_,_,_=>xr1_9_2
 | 1,10,0,_,_,_=>ztC
 | 1,10,1,_,_,_=>ztB
 | 1,10,2,_,_,_=>ztA
 | 1,11,0,_,_,_=>ztz
 | 1,11,1,_,_,_=>zty
 | 1,11,2,_,_,_=>ztx
 | 1,12,0,_,_,_=>ztw
 | 1,12,1,_,_,_=>ztv
 | 1,12,2,_,_,_=>ztu
 | 1,13,0,_,_,_=>ztt
 | 1,13,1,_,_,_=>zts
 | 1,13,2,_,_,_=>ztr
 | 1,14,0,_,_,_=>ztq
 | 1,14,1,_,_,_=>ztp
 | 1,15,0,_,_,_=>zto
 | 2,0,0,_,_,_=>xr2_0_0
 | 2,0,1,_,_,_=>xr2_0_1
 | 2,0,2,_,_,_=>xr2_0_2
 | 2,1,0,_,_,_=>xr2_1_0
 | 2,1,1,_,_,_=>xr2_1_1
 | 2,1,2,_,_,_=>xr2_1_2
 | 2,2,0,_,_,_=>xr2_2_0
 | 2,2,1,_,_,_=>xr2_2_1
 | 2,2,2,_,_,_=>xr2_2_2
 | 2,3,0,_,_,_=>xr2_3_0
 | 2,3,1,_,_,_=>xr2_3_1
 | 2,3,2,_,_,_=>xr2_3_2
 | 2,4,0,_,_,_=>xr2_4_0
 | 2,4,1,_,_,_=>xr2_4_1
 | 2,4,2,_,_,_=>xr2_4_2
 | 2,5,0,_,_,_=>xr2_5_0
 | 2,5,1,_,_,_=>xr2_5_1
 | 2,5,2,_,_,_=>xr2_5_2
 | 2,6,0,_,_,_=>xr2_6_0
 | 2,6,1,_,_,_=>xr2_6_1
 | 2,6,2,_,_,_=>xr2_6_2
 | 2,7,0,_,_,_=>xr2_7_0
 | 2,7,1,_,_,_=>xr2_7_1
 | 2,7,2,_,_,_=>xr2_7_2
 | 2,8,0,_,_,_=>xr2_8_0
 | 2,8,1,_,_,_=>xr2_8_1
 | 2,8,2,_,_,_=>xr2_8_2
 | 2,9,0,_,_,_=>xr2_9_0
 | 2,9,1,_,_,_=>xr2_9_1
 | 2,9,2,_,_,_=>xr2_9_2
 | 2,10,0,_,_,_=>ztn
 | 2,10,1,_,_,_=>ztm
 | 2,10,2,_,_,_=>ztl
 | 2,11,0,_,_,_=>ztk
 | 2,11,1,_,_,_=>ztj
 | 2,11,2,_,_,_=>zti
 | 2,12,0,_,_,_=>zth
 | 2,12,1,_,_,_=>ztg
 | 2,12,2,_,_,_=>ztf
 | 2,13,0,_,_,_=>zte
 | 2,13,1,_,_,_=>ztd
 | 2,13,2,_,_,_=>ztc
 | 2,14,0,_,_,_=>ztb
 | 2,14,1,_,_,_=>zta
 | 2,15,0,_,_,_=>zs9
 | 3,0,0,_,_,_=>xr3_0_0
 | 3,0,1,_,_,_=>xr3_0_1
 | 3,0,2,_,_,_=>xr3_0_2
 | 3,1,0,_,_,_=>xr3_1_0
 | 3,1,1,_,_,_=>xr3_1_1
 | 3,1,2,_,_,_=>xr3_1_2
 | 3,2,0,_,_,_=>xr3_2_0
 | 3,2,1,_,_,_=>xr3_2_1
 | 3,2,2,_,_,_=>xr3_2_2
 | 3,3,0,_,_,_=>xr3_3_0
 | 3,3,1,_,_,_=>xr3_3_1
 | 3,3,2,_,_,_=>xr3_3_2
 | 3,4,0,_,_,_=>xr3_4_0
 | 3,4,1,_,_,_=>xr3_4_1
 | 3,4,2,_,_,_=>xr3_4_2
 | 3,5,0,_,_,_=>xr3_5_0
 | 3,5,1,_,_,_=>xr3_5_1
 | 3,5,2,_,_,_=>xr3_5_2
 | 3,6,0,_,_,_=>xr3_6_0
 | 3,6,1,_,_,_=>xr3_6_1
 | 3,6,2,_,_,_=>xr3_6_2
 | 3,7,0,_,_,_=>xr3_7_0
 | 3,7,1,_,_,_=>xr3_7_1
 | 3,7,2,_,_,_=>xr3_7_2
 | 3,8,0,_,_,_=>xr3_8_0
 | 3,8,1,_,_,_=>xr3_8_1
 | 3,8,2,_,_,_=>xr3_8_2
 | 3,9,0,_,_,_=>xr3_9_0
 | 3,9,1,_,_,_=>xr3_9_1
 | 3,9,2,_,_,_=>xr3_9_2
 | 3,10,0,_,_,_=>zs8
 | 3,10,1,_,_,_=>zs7
 | 3,10,2,_,_,_=>zs6
 | 3,11,0,_,_,_=>zs5
 | 3,11,1,_,_,_=>zs4
 | 3,11,2,_,_,_=>zs3
 | 3,12,0,_,_,_=>zs2
 | 3,12,1,_,_,_=>zs1
 | 3,12,2,_,_,_=>zs0
 | 3,13,0,_,_,_=>zsZ
 | 3,13,1,_,_,_=>zsY
 | 3,13,2,_,_,_=>zsX
 | 3,14,0,_,_,_=>zsW
 | 3,14,1,_,_,_=>zsV
 | 3,15,0,_,_,_=>zsU
 | 4,0,0,_,_,_=>xr4_0_0
 | 4,0,1,_,_,_=>xr4_0_1
 | 4,0,2,_,_,_=>xr4_0_2
 | 4,1,0,_,_,_=>xr4_1_0
 | 4,1,1,_,_,_=>xr4_1_1
 | 4,1,2,_,_,_=>xr4_1_2
 | 4,2,0,_,_,_=>xr4_2_0
 | 4,2,1,_,_,_=>xr4_2_1
 | 4,2,2,_,_,_=>xr4_2_2
 | 4,3,0,_,_,_=>xr4_3_0
 | 4,3,1,_,_,_=>xr4_3_1
 | 4,3,2,_,_,_=>xr4_3_2
 | 4,4,0,_,_,_=>xr4_4_0
 | 4,4,1,_,_,_=>xr4_4_1
 | 4,4,2,_,_,_=>xr4_4_2
 | 4,5,0,_,_,_=>xr4_5_0
 | 4,5,1,_,_,_=>xr4_5_1
 | 4,5,2,_,_,_=>xr4_5_2
 | 4,6,0,_,_,_=>xr4_6_0
 | 4,6,1,_,_,_=>xr4_6_1
 | 4,6,2,_,_,_=>xr4_6_2
 | 4,7,0,_,_,_=>xr4_7_0
 | 4,7,1,_,_,_=>xr4_7_1
 | 4,7,2,_,_,_=>xr4_7_2
 | 4,8,0,_,_,_=>xr4_8_0
 | 4,8,1,_,_,_=>xr4_8_1
 | 4,8,2,_,_,_=>xr4_8_2
 | 4,9,0,_,_,_=>xr4_9_0
 | 4,9,1,_,_,_=>xr4_9_1
 | 4,9,2,_,_,_=>xr4_9_2
 | 4,10,0,_,_,_=>zsT
 | 4,10,1,_,_,_=>zsS
 | 4,10,2,_,_,_=>zsQ
 | 4,11,0,_,_,_=>zsP
 | 4,11,1,_,_,_=>zsO
 | 4,11,2,_,_,_=>zsN
 | 4,12,0,_,_,_=>zsM
 | 4,12,1,_,_,_=>zsL
 | 4,12,2,_,_,_=>zsK
 | 4,13,0,_,_,_=>zsJ
 | 4,13,1,_,_,_=>zsI
 | 4,13,2,_,_,_=>zsH
 | 4,14,0,_,_,_=>zsG
 | 4,14,1,_,_,_=>zsF
 | 4,15,0,_,_,_=>zsE
 | 5,0,0,_,_,_=>xr5_0_0
 | 5,0,1,_,_,_=>xr5_0_1
 | 5,0,2,_,_,_=>xr5_0_2
 | 5,1,0,_,_,_=>xr5_1_0
 | 5,1,1,_,_,_=>xr5_1_1
 | 5,1,2,_,_,_=>xr5_1_2
 | 5,2,0,_,_,_=>xr5_2_0
 | 5,2,1,_,_,_=>xr5_2_1
 | 5,2,2,_,_,_=>xr5_2_2
 | 5,3,0,_,_,_=>xr5_3_0
 | 5,3,1,_,_,_=>xr5_3_1
 | 5,3,2,_,_,_=>xr5_3_2
 | 5,4,0,_,_,_=>xr5_4_0
 | 5,4,1,_,_,_=>xr5_4_1
 | 5,4,2,_,_,_=>xr5_4_2
 | 5,5,0,_,_,_=>xr5_5_0
 | 5,5,1,_,_,_=>xr5_5_1
 | 5,5,2,_,_,_=>xr5_5_2
 | 5,6,0,_,_,_=>xr5_6_0
 | 5,6,1,_,_,_=>xr5_6_1
 | 5,6,2,_,_,_=>xr5_6_2
 | 5,7,0,_,_,_=>xr5_7_0
 | 5,7,1,_,_,_=>xr5_7_1
 | 5,7,2,_,_,_=>xr5_7_2
 | 5,8,0,_,_,_=>xr5_8_0
 | 5,8,1,_,_,_=>xr5_8_1
 | 5,8,2,_,_,_=>xr5_8_2
 | 5,9,0,_,_,_=>xr5_9_0
 | 5,9,1,_,_,_=>xr5_9_1
 | 5,9,2,_,_,_=>xr5_9_2
 | 5,10,0,_,_,_=>zsD
 | 5,10,1,_,_,_=>zsC
 | 5,10,2,_,_,_=>zsB
 | 5,11,0,_,_,_=>zsA
 | 5,11,1,_,_,_=>zsz
 | 5,11,2,_,_,_=>zsy
 | 5,12,0,_,_,_=>zsx
 | 5,12,1,_,_,_=>zsw
 | 5,12,2,_,_,_=>zsv
 | 5,13,0,_,_,_=>zsu
 | 5,13,1,_,_,_=>zst
 | 5,13,2,_,_,_=>zss
 | 5,14,0,_,_,_=>zsr
 | 5,14,1,_,_,_=>zsq
 | 5,15,0,_,_,_=>zsp
 | 6,0,0,_,_,_=>xr6_0_0
 | 6,0,1,_,_,_=>xr6_0_1
 | 6,0,2,_,_,_=>xr6_0_2
 | 6,1,0,_,_,_=>xr6_1_0
 | 6,1,1,_,_,_=>xr6_1_1
 | 6,1,2,_,_,_=>xr6_1_2
 | 6,2,0,_,_,_=>xr6_2_0
 | 6,2,1,_,_,_=>xr6_2_1
 | 6,2,2,_,_,_=>xr6_2_2
 | 6,3,0,_,_,_=>xr6_3_0
 | 6,3,1,_,_,_=>xr6_3_1
 | 6,3,2,_,_,_=>xr6_3_2
 | 6,4,0,_,_,_=>xr6_4_0
 | 6,4,1,_,_,_=>xr6_4_1
 | 6,4,2,_,_,_=>xr6_4_2
 | 6,5,0,_,_,_=>xr6_5_0
 | 6,5,1,_,_,_=>xr6_5_1
 | 6,5,2,_,_,_=>xr6_5_2
 | 6,6,0,_,_,_=>xr6_6_0
 | 6,6,1,_,_,_=>xr6_6_1
 | 6,6,2,_,_,_=>xr6_6_2
 | 6,7,0,_,_,_=>xr6_7_0
 | 6,7,1,_,_,_=>xr6_7_1
 | 6,7,2,_,_,_=>xr6_7_2
 | 6,8,0,_,_,_=>xr6_8_0
 | 6,8,1,_,_,_=>xr6_8_1
 | 6,8,2,_,_,_=>xr6_8_2
 | 6,9,0,_,_,_=>xr6_9_0
 | 6,9,1,_,_,_=>xr6_9_1
 | 6,9,2,_,_,_=>xr6_9_2
 | 6,10,0,_,_,_=>zso
 | 6,10,1,_,_,_=>zsn
 | 6,10,2,_,_,_=>zsm
 | 6,11,0,_,_,_=>zsl
 | 6,11,1,_,_,_=>zsk
 | 6,11,2,_,_,_=>zsj
 | 6,12,0,_,_,_=>zsi
 | 6,12,1,_,_,_=>zsh
 | 6,12,2,_,_,_=>zsg
 | 6,13,0,_,_,_=>zsf
 | 6,13,1,_,_,_=>zse
 | 6,13,2,_,_,_=>zsd
 | 6,14,0,_,_,_=>zsc
 | 6,14,1,_,_,_=>zsb
 | 6,15,0,_,_,_=>zsa
 | 0,14,2,_,_,h=>absurd h (by omega)
 | 0,15,1,_,_,h=>absurd h (by omega)
 | 0,15,2,_,_,h=>absurd h (by omega)
 | 0,j+16,_,_,_,h=>absurd h (by omega)
 | 0,_,d+3,_,h,_=>absurd h (by omega)
 | 1,14,2,_,_,h=>absurd h (by omega)
 | 1,15,1,_,_,h=>absurd h (by omega)
 | 1,15,2,_,_,h=>absurd h (by omega)
 | 1,j+16,_,_,_,h=>absurd h (by omega)
 | 1,_,d+3,_,h,_=>absurd h (by omega)
 | 2,14,2,_,_,h=>absurd h (by omega)
 | 2,15,1,_,_,h=>absurd h (by omega)
 | 2,15,2,_,_,h=>absurd h (by omega)
 | 2,j+16,_,_,_,h=>absurd h (by omega)
 | 2,_,d+3,_,h,_=>absurd h (by omega)
 | 3,14,2,_,_,h=>absurd h (by omega)
 | 3,15,1,_,_,h=>absurd h (by omega)
 | 3,15,2,_,_,h=>absurd h (by omega)
 | 3,j+16,_,_,_,h=>absurd h (by omega)
 | 3,_,d+3,_,h,_=>absurd h (by omega)
 | 4,14,2,_,_,h=>absurd h (by omega)
 | 4,15,1,_,_,h=>absurd h (by omega)
 | 4,15,2,_,_,h=>absurd h (by omega)
 | 4,j+16,_,_,_,h=>absurd h (by omega)
 | 4,_,d+3,_,h,_=>absurd h (by omega)
 | 5,14,2,_,_,h=>absurd h (by omega)
 | 5,15,1,_,_,h=>absurd h (by omega)
 | 5,15,2,_,_,h=>absurd h (by omega)
 | 5,j+16,_,_,_,h=>absurd h (by omega)
 | 5,_,d+3,_,h,_=>absurd h (by omega)
 | 6,14,2,_,_,h=>absurd h (by omega)
 | 6,15,1,_,_,h=>absurd h (by omega)
 | 6,15,2,_,_,h=>absurd h (by omega)
 | 6,j+16,_,_,_,h=>absurd h (by omega)
 | 6,_,d+3,_,h,_=>absurd h (by omega)
 | k+7,_,_,h,_,_=>absurd h (by omega)
open Go.RowKit
variable {E:Env}
theorem dX_ok {n j:Nat} (h:j<n) (hn:n<=16):dX n j<3/\j+dX n j<16:=by
 obtain⟨m,hm⟩:∃ m,m=Nat.sub (Nat.sub n 1) j:=⟨_,rfl⟩
 have hm':m=n - 1 - j:=hm
 unfold dX
 rw[<- hm]
 match m,hm' with
 | 0,e=>exact⟨(by decide:0<3),by show j+0<16;omega⟩
 | 1,e=>exact⟨(by decide:1<3),by show j+1<16;omega⟩
 | m+2,e=>exact⟨(by decide:2<3),by show j+2<16;omega⟩
theorem zqE {k n:Nat}:∀ {c:Nat} {s:Xm},s∈dlX k n c->∃ j,j<c/\s=xmX k j (dX n j)
 | 0,s,h=>by cases h
 | c+1,s,h=>by
  rcases List.mem_cons.1 (show s∈xmX k c (dX n c)::dlX k n c from h) with h1 | h1
  ·exact⟨c,by omega,h1⟩
  ·obtain⟨j,h2,h3⟩:=zqE h1
   exact⟨j,by omega,h3⟩
theorem xmC_ok (hlen:∀ E,jx E) {k n:Nat} (hk:k<7) (hn:n<=16):zf E Tryz.prog (xmC k n):=by
 refine xmh_ok cX_wf (fun E' _=>zbw (hlen E')) (zbw (hlen E)) fun l s hs=>?_
 obtain⟨j,hj,rfl⟩:=zqE hs
 obtain⟨h1,h2⟩:=dX_ok hj hn
 refine⟨?_,xr k j _ hk h1 h2⟩
 have:=rng_ok (rng_ok (rng_ok xm_wf k hk) j (by omega)) _ h1
 rw[show Nat.blt (Nat.add j (dX n j)) 16=true by rw[Nat.blt_eq];exact h2]at this
 exact this
theorem rl_ok {k n:Nat} (hk:k<7) (hn:n<16):∀ j,j<2->zba (stR k (n+1) j).h=true:=by
 have h:bc (zba (stR k (Nat.succ n) 0).h) (zba (stR k (Nat.succ n) 1).h) false=true:=rng_ok (rng_ok rl_all k hk) n hn
 cases h1:zba (stR k (Nat.succ n) 0).h with
 | false=>rw[h1]at h;cases h
 | true=>
  rw[h1]at h
  intro j hj
  match j,hj with
  | 0,_=>exact h1
  | 1,_=>exact h
theorem cR_ok (hlen:∀ E,jx E) {k n:Nat} (hk:k<7) (hn:n<=16) {a t:Int} (ha:-9223372036854775808<=a/\a<=9223372036854775807) (ht:t=za8 a 4):∀ E:Env,E.i 3=a->E.i 6=t->zf E Tryz.prog (cR k n):=fun E h3 h6=>
 zec (v:=.si .i64 (.v 6)) Tryz.call8 (fun E' _=>zer (hlen E')) (fun E' _=>zbw (hlen E')) pk4_0 pk4_1 (by rw[h3];exact ha) trivial (fun ρ=>by simp only[V.γ,SE.den,h3,h6,ht]) (xmC_ok hlen hk hn)
theorem cI_ok (hlen:∀ E,jx E) {x y:Nat} (hy7:y<7) (h0:-9223372036854775808<=E.i 0/\E.i 0<=9223372036854775807) (h1:-9223372036854775808<=E.i 1/\E.i 1<=9223372036854775807) (hx:za8 (E.i 0) 16=(x:Nat)) (hy:za8 (E.i 1) 7=(y:Nat)):zf E Tryz.prog (cI y (x+1)):=by
 have hA:=zwI (zer (hlen E)) (zbw (hlen E))
 have hk:zf E Tryz.prog (kI y):=zec (v:=.i .i64 (.ofNat y)) Tryz.call8 (fun E' _=>zer (hlen E')) (fun E' _=>zbw (hlen E')) pk7_0 pk7_1 h1 trivial (fun ρ=>by simp only[V.γ,hy];rfl) (zbw (hlen E))
 refine zec (v:=.i .i64 (.ofNat (Nat.sub (x+1) 1))) Tryz.call8 (fun E' _=>zer (hlen E')) (fun E' _=>zbw (hlen E')) pk16_0 pk16_1 h0 trivial (fun ρ=>by simp only[V.γ,hx];rfl) ?_
 refine znv Tryz.call13 trivial (fun ρ w=>?_) hA
 have h:=zc4 (zer (hlen E)) hk FaOk.nil (kd y hy7) ⟨trivial,trivial⟩ ρ w
 refine h.mono ?_
 rintro e w' ⟨⟨ρ',rfl⟩,hb⟩
 exact⟨rfl,hb⟩
theorem znq (hlen:∀ E,jx E) {x y:Nat} (hx16:x<16) (hy7:y<7) (h0:-9223372036854775808<=E.i 0/\E.i 0<=9223372036854775807) (h1:-9223372036854775808<=E.i 1/\E.i 1<=9223372036854775807) (h3:-9223372036854775808<=E.i 3/\E.i 3<=9223372036854775807)
  (hx:za8 (E.i 0) 16=(x:Nat)) (hy:za8 (E.i 1) 7=(y:Nat)) (h6:E.i 6=za8 (E.i 3) 4) {ρ:Rho} {w:World} (hs:Sat E ρ ⟨.h,.h,.e⟩ w) :
  Calls Tryz.prog 4 (γL E ρ argsR).toArray w fun e w'=>e=.returned (.bool true)/\Below w.heap.size w w':=by
 obtain⟨p1,p2⟩:=zfO (c:=E.i 3) (n:=4) (by omega)
 have R:=rows y x hy7 hx16
 exact zr4 zq ya Tryz.func4 qcut w4 (st:=stR y (x+1)) (rl_ok hy7 hx16) (c:=cR y (x+1)) (a:=E.i 3) (t:=za8 (E.i 3) 4) (by omega) (cR_ok hlen hy7 (by omega) h3 rfl) (l0:=l0R y (x+1)) (l1:=l1R y (x+1)) (li:=liR) ⟨rfl,rfl,rfl⟩ ⟨rfl,rfl,rfl⟩ ⟨rfl,rfl⟩
  ((zfB ..).symm.trans R.b) ((zfB ..).symm.trans R.c) ((zfB ..).symm.trans R.d) rfl h6 (gc:=⟨cI y (x+1),4,20000⟩) (cI_ok hlen hy7 h0 h1 hx hy) FaOk.nil R.a hs ⟨trivial,trivial,trivial,trivial⟩
  (fun p o hp=>absurd (show (none:Option O)=some o from (PT.get_e p).symm.trans hp) (by simp))
end Go.Ev.X
end
