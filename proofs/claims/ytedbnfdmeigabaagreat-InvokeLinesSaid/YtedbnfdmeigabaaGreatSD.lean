/-
  Summaries as hooks; functions that range.
-/
import Derived.Test.YtedbnfdmeigabaaGreatSC
import Derived.Test.YtedbnfdmeigabaaGreatSS0
import Derived.Test.YtedbnfdmeigabaaGreatSS1
import Derived.Test.YtedbnfdmeigabaaGreatSS2
import Derived.Test.YtedbnfdmeigabaaGreatSS3
import Derived.Test.YtedbnfdmeigabaaGreatSS4
import Derived.Test.YtedbnfdmeigabaaGreatSS5
import Derived.Test.YtedbnfdmeigabaaGreatSS6
import Derived.Test.YtedbnfdmeigabaaGreatSS7
import Derived.Test.YtedbnfdmeigabaaGreatSS8
import Derived.Test.YtedbnfdmeigabaaGreatSS9
import Derived.Test.YtedbnfdmeigabaaGreatSS10
import Derived.Test.YtedbnfdmeigabaaGreatSS11
import Derived.Test.YtedbnfdmeigabaaGreatSS12
import Derived.Test.YtedbnfdmeigabaaGreatSS13
set_option linter.unusedSimpArgs false
set_option linter.unusedVariables false
set_option maxRecDepth 100000
noncomputable section
namespace Go.Ev.X
open Go Go.Ev Go.Proofs
def smT16 : Tr (List Sm) := (.node (.node (.node (.node (.node (.node (.node (.node (.node (.node (.node .nil (.node (.node (.leaf s16_1024) .nil) .nil)) .nil) .nil) .nil) (.node (.node (.node (.node .nil (.node (.node (.leaf s16_1088) .nil) .nil)) .nil) .nil) .nil)) .nil) .nil) .nil) .nil) .nil) .nil)
theorem smT16_ok : TrP (SmsOk mc16 16 call0) smT16 := ⟨⟨⟨⟨⟨⟨⟨⟨⟨⟨⟨trivial, ⟨⟨(smsB_ok s16_1024_ok), trivial⟩, trivial⟩⟩, trivial⟩, trivial⟩, trivial⟩, ⟨⟨⟨⟨trivial, ⟨⟨(smsB_ok s16_1088_ok), trivial⟩, trivial⟩⟩, trivial⟩, trivial⟩, trivial⟩⟩, trivial⟩, trivial⟩, trivial⟩, trivial⟩, trivial⟩, trivial⟩
def sm16 : List V → H → Fa → K → Nat := smHook mc16 (ssT smT16) 16 call0
def smT17 : Tr (List Sm) := (.node (.node (.node (.node (.node (.node (.node .nil (.node (.node (.node (.node .nil (.node .nil (.node (.leaf s17_3136) .nil))) .nil) .nil) .nil)) .nil) .nil) .nil) .nil) .nil) .nil)
theorem smT17_ok : TrP (SmsOk mc17 17 call0) smT17 := ⟨⟨⟨⟨⟨⟨⟨trivial, ⟨⟨⟨⟨trivial, ⟨trivial, ⟨(smsB_ok s17_3136_ok), trivial⟩⟩⟩, trivial⟩, trivial⟩, trivial⟩⟩, trivial⟩, trivial⟩, trivial⟩, trivial⟩, trivial⟩, trivial⟩
def sm17 : List V → H → Fa → K → Nat := smHook mc17 (ssT smT17) 17 call0
def smT20 : Tr (List Sm) := (.node (.node (.node (.node (.node (.node (.node (.node (.node (.node (.node .nil (.node (.node (.leaf s20_1024) .nil) .nil)) .nil) .nil) .nil) .nil) .nil) .nil) .nil) .nil) .nil) .nil)
theorem smT20_ok : TrP (SmsOk mc20 20 call0) smT20 := ⟨⟨⟨⟨⟨⟨⟨⟨⟨⟨⟨trivial, ⟨⟨(smsB_ok s20_1024_ok), trivial⟩, trivial⟩⟩, trivial⟩, trivial⟩, trivial⟩, trivial⟩, trivial⟩, trivial⟩, trivial⟩, trivial⟩, trivial⟩, trivial⟩
def sm20 : List V → H → Fa → K → Nat := smHook mc20 (ssT smT20) 20 call0
def smT32 : Tr (List Sm) := (.node (.node (.node (.node (.node (.node (.node .nil (.node (.node (.node (.node (.node (.node (.leaf s32_64) .nil) (.node (.leaf s32_2112) .nil)) .nil) .nil) .nil) .nil)) (.node (.node (.node (.node (.node (.node .nil (.node (.leaf s32_2080) .nil)) .nil) .nil) .nil) .nil) (.node (.node (.node (.node (.node (.node (.leaf s32_96) .nil) .nil) .nil) .nil) .nil) .nil))) (.node (.node .nil (.node (.node (.node (.node (.node (.node (.leaf s32_80) .nil) (.node (.leaf s32_2128) .nil)) .nil) .nil) .nil) .nil)) (.node .nil (.node (.node (.node (.node (.node (.node (.leaf s32_112) .nil) .nil) .nil) .nil) .nil) .nil)))) (.node (.node (.node .nil (.node (.node (.node (.node (.node (.node (.leaf s32_72) .nil) .nil) .nil) .nil) .nil) .nil)) (.node .nil (.node (.node (.node (.node (.node (.node (.leaf s32_104) .nil) .nil) .nil) .nil) .nil) .nil))) (.node (.node (.node (.node (.node (.node (.node .nil (.node (.leaf s32_2072) .nil)) .nil) .nil) .nil) .nil) (.node (.node (.node (.node (.node (.node (.leaf s32_88) .nil) .nil) .nil) .nil) .nil) .nil)) (.node .nil (.node (.node (.node (.node (.node (.node (.leaf s32_120) .nil) .nil) .nil) .nil) .nil) .nil))))) (.node (.node (.node (.node .nil (.node (.node (.node (.node (.node (.node (.leaf s32_68) .nil) (.node (.leaf s32_2116) .nil)) .nil) .nil) .nil) .nil)) (.node .nil (.node (.node (.node (.node (.node (.node (.leaf s32_100) .nil) .nil) .nil) .nil) .nil) .nil))) (.node (.node (.node (.node (.node (.node (.node .nil (.node (.leaf s32_2068) .nil)) .nil) .nil) .nil) .nil) (.node (.node (.node (.node (.node (.node (.leaf s32_84) .nil) .nil) .nil) .nil) .nil) .nil)) (.node .nil (.node (.node (.node (.node (.node (.node (.leaf s32_116) .nil) .nil) .nil) .nil) .nil) .nil)))) (.node (.node (.node .nil (.node (.node (.node (.node (.node (.node (.leaf s32_76) .nil) .nil) .nil) .nil) .nil) .nil)) (.node .nil (.node (.node (.node (.node (.node (.node (.leaf s32_108) .nil) .nil) .nil) .nil) .nil) .nil))) (.node (.node (.node (.node (.node (.node (.node .nil (.node (.leaf s32_2076) .nil)) .nil) .nil) .nil) .nil) (.node (.node (.node (.node (.node (.node (.leaf s32_92) .nil) .nil) .nil) .nil) .nil) .nil)) (.node .nil (.node (.node (.node (.node (.node (.node (.leaf s32_124) .nil) .nil) .nil) .nil) .nil) .nil)))))) .nil) .nil)
theorem smT32_ok : TrP (SmsOk mc32 32 call0) smT32 := ⟨⟨⟨⟨⟨⟨⟨trivial, ⟨⟨⟨⟨⟨⟨(smsB_ok s32_64_ok), trivial⟩, ⟨(smsB_ok s32_2112_ok), trivial⟩⟩, trivial⟩, trivial⟩, trivial⟩, trivial⟩⟩, ⟨⟨⟨⟨⟨⟨trivial, ⟨(smsB_ok s32_2080_ok), trivial⟩⟩, trivial⟩, trivial⟩, trivial⟩, trivial⟩, ⟨⟨⟨⟨⟨⟨(smsB_ok s32_96_ok), trivial⟩, trivial⟩, trivial⟩, trivial⟩, trivial⟩, trivial⟩⟩⟩, ⟨⟨trivial, ⟨⟨⟨⟨⟨⟨(smsB_ok s32_80_ok), trivial⟩, ⟨(smsB_ok s32_2128_ok), trivial⟩⟩, trivial⟩, trivial⟩, trivial⟩, trivial⟩⟩, ⟨trivial, ⟨⟨⟨⟨⟨⟨(smsB_ok s32_112_ok), trivial⟩, trivial⟩, trivial⟩, trivial⟩, trivial⟩, trivial⟩⟩⟩⟩, ⟨⟨⟨trivial, ⟨⟨⟨⟨⟨⟨(smsB_ok s32_72_ok), trivial⟩, trivial⟩, trivial⟩, trivial⟩, trivial⟩, trivial⟩⟩, ⟨trivial, ⟨⟨⟨⟨⟨⟨(smsB_ok s32_104_ok), trivial⟩, trivial⟩, trivial⟩, trivial⟩, trivial⟩, trivial⟩⟩⟩, ⟨⟨⟨⟨⟨⟨⟨trivial, ⟨(smsB_ok s32_2072_ok), trivial⟩⟩, trivial⟩, trivial⟩, trivial⟩, trivial⟩, ⟨⟨⟨⟨⟨⟨(smsB_ok s32_88_ok), trivial⟩, trivial⟩, trivial⟩, trivial⟩, trivial⟩, trivial⟩⟩, ⟨trivial, ⟨⟨⟨⟨⟨⟨(smsB_ok s32_120_ok), trivial⟩, trivial⟩, trivial⟩, trivial⟩, trivial⟩, trivial⟩⟩⟩⟩⟩, ⟨⟨⟨⟨trivial, ⟨⟨⟨⟨⟨⟨(smsB_ok s32_68_ok), trivial⟩, ⟨(smsB_ok s32_2116_ok), trivial⟩⟩, trivial⟩, trivial⟩, trivial⟩, trivial⟩⟩, ⟨trivial, ⟨⟨⟨⟨⟨⟨(smsB_ok s32_100_ok), trivial⟩, trivial⟩, trivial⟩, trivial⟩, trivial⟩, trivial⟩⟩⟩, ⟨⟨⟨⟨⟨⟨⟨trivial, ⟨(smsB_ok s32_2068_ok), trivial⟩⟩, trivial⟩, trivial⟩, trivial⟩, trivial⟩, ⟨⟨⟨⟨⟨⟨(smsB_ok s32_84_ok), trivial⟩, trivial⟩, trivial⟩, trivial⟩, trivial⟩, trivial⟩⟩, ⟨trivial, ⟨⟨⟨⟨⟨⟨(smsB_ok s32_116_ok), trivial⟩, trivial⟩, trivial⟩, trivial⟩, trivial⟩, trivial⟩⟩⟩⟩, ⟨⟨⟨trivial, ⟨⟨⟨⟨⟨⟨(smsB_ok s32_76_ok), trivial⟩, trivial⟩, trivial⟩, trivial⟩, trivial⟩, trivial⟩⟩, ⟨trivial, ⟨⟨⟨⟨⟨⟨(smsB_ok s32_108_ok), trivial⟩, trivial⟩, trivial⟩, trivial⟩, trivial⟩, trivial⟩⟩⟩, ⟨⟨⟨⟨⟨⟨⟨trivial, ⟨(smsB_ok s32_2076_ok), trivial⟩⟩, trivial⟩, trivial⟩, trivial⟩, trivial⟩, ⟨⟨⟨⟨⟨⟨(smsB_ok s32_92_ok), trivial⟩, trivial⟩, trivial⟩, trivial⟩, trivial⟩, trivial⟩⟩, ⟨trivial, ⟨⟨⟨⟨⟨⟨(smsB_ok s32_124_ok), trivial⟩, trivial⟩, trivial⟩, trivial⟩, trivial⟩, trivial⟩⟩⟩⟩⟩⟩, trivial⟩, trivial⟩
def sm32 : List V → H → Fa → K → Nat := smHook mc32 (ssT smT32) 32 call0
def smT35 : Tr (List Sm) := (.node (.node (.node (.node (.node (.node (.node .nil (.node (.node (.node (.node .nil (.node (.node (.leaf s35_1088) .nil) .nil)) .nil) .nil) .nil)) .nil) .nil) .nil) .nil) .nil) .nil)
theorem smT35_ok : TrP (SmsOk mc35 35 call0) smT35 := ⟨⟨⟨⟨⟨⟨⟨trivial, ⟨⟨⟨⟨trivial, ⟨⟨(smsB_ok s35_1088_ok), trivial⟩, trivial⟩⟩, trivial⟩, trivial⟩, trivial⟩⟩, trivial⟩, trivial⟩, trivial⟩, trivial⟩, trivial⟩, trivial⟩
def sm35 : List V → H → Fa → K → Nat := smHook mc35 (ssT smT35) 35 call0
def smT57 : Tr (List Sm) := (.node (.node (.node (.node .nil (.node (.node (.node (.node (.node (.node (.node (.node (.node (.leaf s57_8) .nil) .nil) .nil) .nil) .nil) .nil) .nil) .nil) .nil)) (.node (.node (.node (.node (.node (.node (.node (.node (.node (.node (.leaf s57_4) .nil) .nil) .nil) .nil) .nil) .nil) .nil) .nil) .nil) .nil)) (.node (.node (.node (.node (.node (.node (.node (.node (.node (.node (.node (.leaf s57_2) .nil) .nil) .nil) .nil) .nil) .nil) .nil) .nil) .nil) (.node (.node (.node (.node (.node .nil (.node (.node (.node (.node (.leaf s57_266) .nil) .nil) .nil) .nil)) .nil) .nil) .nil) .nil)) .nil)) (.node (.node (.node (.node (.node (.node (.node (.node (.node (.node (.node (.node (.leaf s57_1) .nil) .nil) .nil) .nil) .nil) .nil) .nil) .nil) .nil) .nil) .nil) .nil))
theorem smT57_ok : TrP (SmsOk mc57 57 call0) smT57 := ⟨⟨⟨⟨trivial, ⟨⟨⟨⟨⟨⟨⟨⟨⟨(smsB_ok s57_8_ok), trivial⟩, trivial⟩, trivial⟩, trivial⟩, trivial⟩, trivial⟩, trivial⟩, trivial⟩, trivial⟩⟩, ⟨⟨⟨⟨⟨⟨⟨⟨⟨⟨(smsB_ok s57_4_ok), trivial⟩, trivial⟩, trivial⟩, trivial⟩, trivial⟩, trivial⟩, trivial⟩, trivial⟩, trivial⟩, trivial⟩⟩, ⟨⟨⟨⟨⟨⟨⟨⟨⟨⟨⟨(smsB_ok s57_2_ok), trivial⟩, trivial⟩, trivial⟩, trivial⟩, trivial⟩, trivial⟩, trivial⟩, trivial⟩, trivial⟩, ⟨⟨⟨⟨⟨trivial, ⟨⟨⟨⟨(smsB_ok s57_266_ok), trivial⟩, trivial⟩, trivial⟩, trivial⟩⟩, trivial⟩, trivial⟩, trivial⟩, trivial⟩⟩, trivial⟩⟩, ⟨⟨⟨⟨⟨⟨⟨⟨⟨⟨⟨⟨(smsB_ok s57_1_ok), trivial⟩, trivial⟩, trivial⟩, trivial⟩, trivial⟩, trivial⟩, trivial⟩, trivial⟩, trivial⟩, trivial⟩, trivial⟩, trivial⟩⟩
def sm57 : List V → H → Fa → K → Nat := smHook mc57 (ssT smT57) 57 call0
def smT61 : Tr (List Sm) := (.node (.node (.node (.node (.node (.node (.node (.node (.node (.node (.node .nil (.node (.node (.leaf s61_1024) .nil) .nil)) .nil) .nil) .nil) (.node (.node (.node (.node (.node (.node (.leaf s61_64) .nil) (.node (.leaf s61_2112) .nil)) .nil) .nil) .nil) .nil)) (.node (.node (.node (.node (.node (.node .nil (.node (.leaf s61_2080) .nil)) .nil) .nil) .nil) .nil) (.node (.node (.node (.node (.node (.node (.leaf s61_96) .nil) .nil) .nil) .nil) .nil) .nil))) (.node (.node .nil (.node (.node (.node (.node (.node (.node (.leaf s61_80) .nil) (.node (.leaf s61_2128) .nil)) .nil) .nil) .nil) .nil)) (.node .nil (.node (.node (.node (.node (.node (.node (.leaf s61_112) .nil) .nil) .nil) .nil) .nil) .nil)))) (.node (.node (.node .nil (.node (.node (.node (.node (.node (.node (.leaf s61_72) .nil) .nil) .nil) .nil) .nil) .nil)) (.node .nil (.node (.node (.node (.node (.node (.node (.leaf s61_104) .nil) .nil) .nil) .nil) .nil) .nil))) (.node (.node (.node (.node (.node (.node (.node .nil (.node (.leaf s61_2072) .nil)) .nil) .nil) .nil) .nil) (.node (.node (.node (.node (.node (.node (.leaf s61_88) .nil) .nil) .nil) .nil) .nil) .nil)) (.node .nil (.node (.node (.node (.node (.node (.node (.leaf s61_120) .nil) .nil) .nil) .nil) .nil) .nil))))) (.node (.node (.node (.node .nil (.node (.node (.node (.node (.node (.node (.leaf s61_68) .nil) (.node (.leaf s61_2116) .nil)) .nil) .nil) .nil) .nil)) (.node .nil (.node (.node (.node (.node (.node (.node (.leaf s61_100) .nil) .nil) .nil) .nil) .nil) .nil))) (.node (.node (.node (.node (.node (.node (.node .nil (.node (.leaf s61_2068) .nil)) .nil) .nil) .nil) .nil) (.node (.node (.node (.node (.node (.node (.leaf s61_84) .nil) .nil) .nil) .nil) .nil) .nil)) (.node .nil (.node (.node (.node (.node (.node (.node (.leaf s61_116) .nil) .nil) .nil) .nil) .nil) .nil)))) (.node (.node (.node (.node (.node (.node (.node (.node .nil (.node (.leaf s61_2060) .nil)) .nil) .nil) .nil) .nil) (.node (.node (.node (.node (.node (.node (.leaf s61_76) .nil) .nil) .nil) .nil) .nil) .nil)) (.node .nil (.node (.node (.node (.node (.node (.node (.leaf s61_108) .nil) .nil) .nil) .nil) .nil) .nil))) (.node (.node (.node (.node (.node (.node (.node .nil (.node (.leaf s61_2076) .nil)) .nil) .nil) .nil) .nil) (.node (.node (.node (.node (.node (.node (.leaf s61_92) .nil) .nil) .nil) .nil) .nil) .nil)) (.node .nil (.node (.node (.node (.node (.node (.node (.leaf s61_124) .nil) .nil) .nil) .nil) .nil) .nil)))))) .nil) .nil)
theorem smT61_ok : TrP (SmsOk mc61 61 call0) smT61 := ⟨⟨⟨⟨⟨⟨⟨⟨⟨⟨⟨trivial, ⟨⟨(smsB_ok s61_1024_ok), trivial⟩, trivial⟩⟩, trivial⟩, trivial⟩, trivial⟩, ⟨⟨⟨⟨⟨⟨(smsB_ok s61_64_ok), trivial⟩, ⟨(smsB_ok s61_2112_ok), trivial⟩⟩, trivial⟩, trivial⟩, trivial⟩, trivial⟩⟩, ⟨⟨⟨⟨⟨⟨trivial, ⟨(smsB_ok s61_2080_ok), trivial⟩⟩, trivial⟩, trivial⟩, trivial⟩, trivial⟩, ⟨⟨⟨⟨⟨⟨(smsB_ok s61_96_ok), trivial⟩, trivial⟩, trivial⟩, trivial⟩, trivial⟩, trivial⟩⟩⟩, ⟨⟨trivial, ⟨⟨⟨⟨⟨⟨(smsB_ok s61_80_ok), trivial⟩, ⟨(smsB_ok s61_2128_ok), trivial⟩⟩, trivial⟩, trivial⟩, trivial⟩, trivial⟩⟩, ⟨trivial, ⟨⟨⟨⟨⟨⟨(smsB_ok s61_112_ok), trivial⟩, trivial⟩, trivial⟩, trivial⟩, trivial⟩, trivial⟩⟩⟩⟩, ⟨⟨⟨trivial, ⟨⟨⟨⟨⟨⟨(smsB_ok s61_72_ok), trivial⟩, trivial⟩, trivial⟩, trivial⟩, trivial⟩, trivial⟩⟩, ⟨trivial, ⟨⟨⟨⟨⟨⟨(smsB_ok s61_104_ok), trivial⟩, trivial⟩, trivial⟩, trivial⟩, trivial⟩, trivial⟩⟩⟩, ⟨⟨⟨⟨⟨⟨⟨trivial, ⟨(smsB_ok s61_2072_ok), trivial⟩⟩, trivial⟩, trivial⟩, trivial⟩, trivial⟩, ⟨⟨⟨⟨⟨⟨(smsB_ok s61_88_ok), trivial⟩, trivial⟩, trivial⟩, trivial⟩, trivial⟩, trivial⟩⟩, ⟨trivial, ⟨⟨⟨⟨⟨⟨(smsB_ok s61_120_ok), trivial⟩, trivial⟩, trivial⟩, trivial⟩, trivial⟩, trivial⟩⟩⟩⟩⟩, ⟨⟨⟨⟨trivial, ⟨⟨⟨⟨⟨⟨(smsB_ok s61_68_ok), trivial⟩, ⟨(smsB_ok s61_2116_ok), trivial⟩⟩, trivial⟩, trivial⟩, trivial⟩, trivial⟩⟩, ⟨trivial, ⟨⟨⟨⟨⟨⟨(smsB_ok s61_100_ok), trivial⟩, trivial⟩, trivial⟩, trivial⟩, trivial⟩, trivial⟩⟩⟩, ⟨⟨⟨⟨⟨⟨⟨trivial, ⟨(smsB_ok s61_2068_ok), trivial⟩⟩, trivial⟩, trivial⟩, trivial⟩, trivial⟩, ⟨⟨⟨⟨⟨⟨(smsB_ok s61_84_ok), trivial⟩, trivial⟩, trivial⟩, trivial⟩, trivial⟩, trivial⟩⟩, ⟨trivial, ⟨⟨⟨⟨⟨⟨(smsB_ok s61_116_ok), trivial⟩, trivial⟩, trivial⟩, trivial⟩, trivial⟩, trivial⟩⟩⟩⟩, ⟨⟨⟨⟨⟨⟨⟨⟨trivial, ⟨(smsB_ok s61_2060_ok), trivial⟩⟩, trivial⟩, trivial⟩, trivial⟩, trivial⟩, ⟨⟨⟨⟨⟨⟨(smsB_ok s61_76_ok), trivial⟩, trivial⟩, trivial⟩, trivial⟩, trivial⟩, trivial⟩⟩, ⟨trivial, ⟨⟨⟨⟨⟨⟨(smsB_ok s61_108_ok), trivial⟩, trivial⟩, trivial⟩, trivial⟩, trivial⟩, trivial⟩⟩⟩, ⟨⟨⟨⟨⟨⟨⟨trivial, ⟨(smsB_ok s61_2076_ok), trivial⟩⟩, trivial⟩, trivial⟩, trivial⟩, trivial⟩, ⟨⟨⟨⟨⟨⟨(smsB_ok s61_92_ok), trivial⟩, trivial⟩, trivial⟩, trivial⟩, trivial⟩, trivial⟩⟩, ⟨trivial, ⟨⟨⟨⟨⟨⟨(smsB_ok s61_124_ok), trivial⟩, trivial⟩, trivial⟩, trivial⟩, trivial⟩, trivial⟩⟩⟩⟩⟩⟩, trivial⟩, trivial⟩
def sm61 : List V → H → Fa → K → Nat := smHook mc61 (ssT smT61) 61 call0
def smT64 : Tr (List Sm) := (.node (.node (.node (.node .nil (.node (.node (.node (.node (.node (.node (.node (.node (.node (.leaf s64_8) .nil) .nil) .nil) .nil) .nil) .nil) .nil) .nil) .nil)) (.node (.node (.node (.node (.node (.node (.node (.node (.node (.node (.leaf s64_4) .nil) .nil) .nil) .nil) .nil) .nil) .nil) .nil) .nil) .nil)) (.node (.node .nil (.node (.node (.node (.node (.node .nil (.node (.node (.node (.node (.leaf s64_266) .nil) .nil) .nil) .nil)) .nil) .nil) .nil) .nil)) .nil)) (.node (.node (.node (.node (.node (.node (.node (.node (.node (.node (.node (.node (.leaf s64_1) .nil) .nil) .nil) .nil) .nil) .nil) .nil) .nil) .nil) .nil) .nil) .nil))
theorem smT64_ok : TrP (SmsOk mc64 64 call0) smT64 := ⟨⟨⟨⟨trivial, ⟨⟨⟨⟨⟨⟨⟨⟨⟨(smsB_ok s64_8_ok), trivial⟩, trivial⟩, trivial⟩, trivial⟩, trivial⟩, trivial⟩, trivial⟩, trivial⟩, trivial⟩⟩, ⟨⟨⟨⟨⟨⟨⟨⟨⟨⟨(smsB_ok s64_4_ok), trivial⟩, trivial⟩, trivial⟩, trivial⟩, trivial⟩, trivial⟩, trivial⟩, trivial⟩, trivial⟩, trivial⟩⟩, ⟨⟨trivial, ⟨⟨⟨⟨⟨trivial, ⟨⟨⟨⟨(smsB_ok s64_266_ok), trivial⟩, trivial⟩, trivial⟩, trivial⟩⟩, trivial⟩, trivial⟩, trivial⟩, trivial⟩⟩, trivial⟩⟩, ⟨⟨⟨⟨⟨⟨⟨⟨⟨⟨⟨⟨(smsB_ok s64_1_ok), trivial⟩, trivial⟩, trivial⟩, trivial⟩, trivial⟩, trivial⟩, trivial⟩, trivial⟩, trivial⟩, trivial⟩, trivial⟩, trivial⟩⟩
def sm64 : List V → H → Fa → K → Nat := smHook mc64 (ssT smT64) 64 call0
def smT110 : Tr (List Sm) := (.node (.node (.node (.node (.node (.node (.node .nil (.node (.node (.node (.node .nil (.node (.node (.leaf s110_1088) .nil) .nil)) .nil) .nil) .nil)) .nil) .nil) .nil) .nil) .nil) .nil)
theorem smT110_ok : TrP (SmsOk mc110 110 call0) smT110 := ⟨⟨⟨⟨⟨⟨⟨trivial, ⟨⟨⟨⟨trivial, ⟨⟨(smsB_ok s110_1088_ok), trivial⟩, trivial⟩⟩, trivial⟩, trivial⟩, trivial⟩⟩, trivial⟩, trivial⟩, trivial⟩, trivial⟩, trivial⟩, trivial⟩
def sm110 : List V → H → Fa → K → Nat := smHook mc110 (ssT smT110) 110 call0
def smT114 : Tr (List Sm) := (.node (.node (.node (.node (.node (.node (.node .nil (.node (.node (.node (.node .nil (.node .nil (.node (.leaf s114_3136) .nil))) .nil) .nil) .nil)) .nil) .nil) .nil) .nil) .nil) .nil)
theorem smT114_ok : TrP (SmsOk mc114 114 call0) smT114 := ⟨⟨⟨⟨⟨⟨⟨trivial, ⟨⟨⟨⟨trivial, ⟨trivial, ⟨(smsB_ok s114_3136_ok), trivial⟩⟩⟩, trivial⟩, trivial⟩, trivial⟩⟩, trivial⟩, trivial⟩, trivial⟩, trivial⟩, trivial⟩, trivial⟩
def sm114 : List V → H → Fa → K → Nat := smHook mc114 (ssT smT114) 114 call0
def smX (F : Nat) : Option (List V → H → Fa → K → Nat) := (bc (Nat.beq F 16) (some sm16) (bc (Nat.beq F 17) (some sm17) (bc (Nat.beq F 20) (some sm20) (bc (Nat.beq F 32) (some sm32) (bc (Nat.beq F 35) (some sm35) (bc (Nat.beq F 57) (some sm57) (bc (Nat.beq F 61) (some sm61) (bc (Nat.beq F 64) (some sm64) (bc (Nat.beq F 110) (some sm110) (bc (Nat.beq F 114) (some sm114) none))))))))))
def cxS : Cx := ⟨fnX, fun F => bc (Nat.beq F 195) (some lenX) (smX F), 20000⟩
def callS1 : CallT := callT cxS 100
def it293 : ItrT := itrT yc293 callS1 293 20000
def itrX (F : Nat) : Option ItrT := (bc (Nat.beq F 293) (some it293) none)
def rf183 : List V → H → Fa → K → Nat := rfnT yc183 rs183 callS1 183 20000 itrX
def cx1 : Cx := ⟨fnX, fun F => bc (Nat.beq F 195) (some lenX) (bc (Nat.beq F 183) (some rf183) (smX F)), 20000⟩
def call1 : CallT := callT cx1 100
theorem y293 : (match Tryz.f293.body with | some c => cCodeY (tyOf Tryz.prog) Tryz.f293.ntmps c true | none => .bad) = yc293 := by kernel_rfl
theorem y183 : (match Tryz.f183.body with | some c => cCodeY (tyOf Tryz.prog) Tryz.f183.ntmps c true | none => .bad) = yc183 := by kernel_rfl
theorem e293 : Tryz.f293.results.toList = [] := by kernel_rfl
theorem e183 : cRes (tyOf Tryz.prog) Tryz.f183.results.toList = some rs183 := by kernel_rfl
variable {E : Env}
def LenOk (E : Env) : Prop := CallOk E Tryz.prog (fun G l h fa k => bc (Nat.beq G 195) (lenX l h fa k) 1)
def LenA (E : Env) : Prop := ∀ E' : Env, (∀ q, q ≠ 7 → E'.s q = E.s q) → LenOk E'
theorem LenA.one (h : LenA E) : LenOk E := h E (fun _ _ => rfl)
theorem hookOne {C : Nat → Option (List V → H → Fa → K → Nat)} {a : Nat} {s : List V → H → Fa → K → Nat} (hs : CallOk E Tryz.prog (fun G l h fa k => bc (Nat.beq G a) (s l h fa k) 1))
    (hC : ∀ F t, C F = some t → CallOk E Tryz.prog (fun G l h fa k => bc (Nat.beq G F) (t l h fa k) 1)) : ∀ F t, bc (Nat.beq F a) (some s) (C F) = some t → CallOk E Tryz.prog (fun G l h fa k => bc (Nat.beq G F) (t l h fa k) 1) := by
  intro F t h
  cases e : Nat.beq F a with
  | true =>
    rw [e] at h
    have h : some s = some t := h
    cases h
    have e : F = a := by simpa using e
    subst e
    exact hs
  | false => rw [e] at h; exact hC F t h
theorem hookNone : ∀ F t, (none : Option (List V → H → Fa → K → Nat)) = some t → CallOk E Tryz.prog (fun G l h fa k => bc (Nat.beq G F) (t l h fa k) 1) := fun F t h => by cases h
theorem cx0_ok (hlen : LenOk E) : CxOk E Tryz.prog (tyOf Tryz.prog) cx0 := ⟨tyOk_tyOf, mixedX, fun F i h => fnX_ok h, hookOne (C := fun _ => none) hlen hookNone⟩
theorem call0_ok (hlen : LenOk E) : CallOk E Tryz.prog call0 := callT_run (cx0_ok hlen) 100
theorem smX_ok (hlen : LenA E) : ∀ F t, smX F = some t → CallOk E Tryz.prog (fun G l h fa k => bc (Nat.beq G F) (t l h fa k) 1) := hookOne (C := fun F => (bc (Nat.beq F 17) (some sm17) (bc (Nat.beq F 20) (some sm20) (bc (Nat.beq F 32) (some sm32) (bc (Nat.beq F 35) (some sm35) (bc (Nat.beq F 57) (some sm57) (bc (Nat.beq F 61) (some sm61) (bc (Nat.beq F 64) (some sm64) (bc (Nat.beq F 110) (some sm110) (bc (Nat.beq F 114) (some sm114) none)))))))))) (ss_ok (fun E' h => call0_ok (hlen E' h)) smT16_ok) (hookOne (C := fun F => (bc (Nat.beq F 20) (some sm20) (bc (Nat.beq F 32) (some sm32) (bc (Nat.beq F 35) (some sm35) (bc (Nat.beq F 57) (some sm57) (bc (Nat.beq F 61) (some sm61) (bc (Nat.beq F 64) (some sm64) (bc (Nat.beq F 110) (some sm110) (bc (Nat.beq F 114) (some sm114) none))))))))) (ss_ok (fun E' h => call0_ok (hlen E' h)) smT17_ok) (hookOne (C := fun F => (bc (Nat.beq F 32) (some sm32) (bc (Nat.beq F 35) (some sm35) (bc (Nat.beq F 57) (some sm57) (bc (Nat.beq F 61) (some sm61) (bc (Nat.beq F 64) (some sm64) (bc (Nat.beq F 110) (some sm110) (bc (Nat.beq F 114) (some sm114) none)))))))) (ss_ok (fun E' h => call0_ok (hlen E' h)) smT20_ok) (hookOne (C := fun F => (bc (Nat.beq F 35) (some sm35) (bc (Nat.beq F 57) (some sm57) (bc (Nat.beq F 61) (some sm61) (bc (Nat.beq F 64) (some sm64) (bc (Nat.beq F 110) (some sm110) (bc (Nat.beq F 114) (some sm114) none))))))) (ss_ok (fun E' h => call0_ok (hlen E' h)) smT32_ok) (hookOne (C := fun F => (bc (Nat.beq F 57) (some sm57) (bc (Nat.beq F 61) (some sm61) (bc (Nat.beq F 64) (some sm64) (bc (Nat.beq F 110) (some sm110) (bc (Nat.beq F 114) (some sm114) none)))))) (ss_ok (fun E' h => call0_ok (hlen E' h)) smT35_ok) (hookOne (C := fun F => (bc (Nat.beq F 61) (some sm61) (bc (Nat.beq F 64) (some sm64) (bc (Nat.beq F 110) (some sm110) (bc (Nat.beq F 114) (some sm114) none))))) (ss_ok (fun E' h => call0_ok (hlen E' h)) smT57_ok) (hookOne (C := fun F => (bc (Nat.beq F 64) (some sm64) (bc (Nat.beq F 110) (some sm110) (bc (Nat.beq F 114) (some sm114) none)))) (ss_ok (fun E' h => call0_ok (hlen E' h)) smT61_ok) (hookOne (C := fun F => (bc (Nat.beq F 110) (some sm110) (bc (Nat.beq F 114) (some sm114) none))) (ss_ok (fun E' h => call0_ok (hlen E' h)) smT64_ok) (hookOne (C := fun F => (bc (Nat.beq F 114) (some sm114) none)) (ss_ok (fun E' h => call0_ok (hlen E' h)) smT110_ok) (hookOne (C := fun F => none) (ss_ok (fun E' h => call0_ok (hlen E' h)) smT114_ok) (hookNone))))))))))
theorem cxS_ok (hlen : LenA E) : CxOk E Tryz.prog (tyOf Tryz.prog) cxS := ⟨tyOk_tyOf, mixedX, fun F i h => fnX_ok h, hookOne (C := smX) hlen.one (smX_ok hlen)⟩
theorem callS1_ok (hlen : LenA E) : CallOk E Tryz.prog callS1 := callT_run (cxS_ok hlen) 100
theorem itrX_ok (hlen : LenA E) : ItrOk E Tryz.prog itrX := by
  intro G it h
  unfold itrX at h
  cases e293' : Nat.beq G 293 with
  | true =>
    rw [e293'] at h
    have h : some it293 = some it := h
    cases h
    have e : G = 293 := by simpa using e293'
    subst e
    refine ⟨Tryz.call293, fun s hand l h fa k hh hk hfa => ?_⟩
    have hy := y293
    split at hy
    · rename_i c hc
      unfold it293 at hk
      rw [← hy] at hk
      exact itr_ok tyOk_tyOf (callS1_ok hlen) Tryz.func293 hc e293 s hand l h fa k hh hk hfa
    · rename_i hc
      exact absurd hc (by have : Tryz.f293.body.isSome = true := by kernel_rfl
                          intro hn; rw [hn] at this; cases this)
  | false =>
  rw [e293'] at h
  cases h
theorem rf183_ok (hlen : LenA E) : CallOk E Tryz.prog (fun G l h fa k => bc (Nat.beq G 183) (rf183 l h fa k) 1) := by
  have hy := y183
  split at hy
  · rename_i c hc
    unfold rf183
    rw [← hy]
    exact rfn_ok tyOk_tyOf (callS1_ok hlen) (itrX_ok hlen) Tryz.func183 Tryz.call183 hc e183
  · rename_i hc
    exact absurd hc (by have : Tryz.f183.body.isSome = true := by kernel_rfl
                        intro hn; rw [hn] at this; cases this)
theorem cx1_ok (hlen : LenA E) : CxOk E Tryz.prog (tyOf Tryz.prog) cx1 := ⟨tyOk_tyOf, mixedX, fun F i h => fnX_ok h, hookOne (C := fun F => bc (Nat.beq F 183) (some rf183) ((smX) F)) hlen.one (hookOne (C := smX) (rf183_ok hlen) (smX_ok hlen))⟩
theorem call1_ok (hlen : LenA E) : CallOk E Tryz.prog call1 := callT_run (cx1_ok hlen) 100
end Go.Ev.X
end
