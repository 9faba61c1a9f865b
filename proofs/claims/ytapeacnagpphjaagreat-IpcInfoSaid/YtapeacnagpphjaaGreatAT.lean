/-
  The whole, over its calls.
-/
import Derived.Test.YtapeacnagpphjaaGreatAC0
import Derived.Test.YtapeacnagpphjaaGreatAC3
import Derived.Test.YtapeacnagpphjaaGreatAC6
import Derived.Test.YtapeacnagpphjaaGreatAC7
import Derived.Test.YtapeacnagpphjaaGreatAC10
import Derived.Test.YtapeacnagpphjaaGreatAC14
import Derived.Test.YtapeacnagpphjaaGreatAC15
import Derived.Test.YtapeacnagpphjaaGreatAC18
import Derived.Test.YtapeacnagpphjaaGreatAC19
import Derived.Test.YtapeacnagpphjaaGreatAC20
set_option linter.unusedSimpArgs false
set_option linter.unusedVariables false
set_option maxRecDepth 100000
noncomputable section
namespace Go.Ev.X
open Go Go.Ev
def aIn : CallT := (memoS am0 (memoS am3 (memoS am4 (memoS am6 (memoS am7 (memoS am8 (memoS am10 (memoS am11 (memoS am12 (memoS am14 (memoS am15 (memoS am16 (memoS am17 (memoS am18 (memoS am19 (memoS am20 (memoS am21 call1)))))))))))))))))
theorem a_run : callS cx1 0 aIn 10 [] ⟨.h, .h, .e⟩ ⟨[], []⟩ (fun u _ _ => bc (V.beq u (.b true)) 0 1) = 0 := by decide +kernel
theorem aIn_ok {E : Env} {P : Program} (h1 : CallOk E P call1) (hfa : FaOk E ⟨[], []⟩) : CallOk E P aIn := (msS_ok rfl at0 hfa h1 (msS_ok rfl at3 hfa h1 (msS_ok rfl at4 hfa h1 (msS_ok rfl at6 hfa h1 (msS_ok rfl at7 hfa h1 (msS_ok rfl at8 hfa h1 (msS_ok rfl at10 hfa h1 (msS_ok rfl at11 hfa h1 (msS_ok rfl at12 hfa h1 (msS_ok rfl at14 hfa h1 (msS_ok rfl at15 hfa h1 (msS_ok rfl at16 hfa h1 (msS_ok rfl at17 hfa h1 (msS_ok rfl at18 hfa h1 (msS_ok rfl at19 hfa h1 (msS_ok rfl at20 hfa h1 (msS_ok rfl at21 hfa h1 h1)))))))))))))))))
def aHook : List V → H → Fa → K → Nat := fun l h fa k => lCase (k (.b true) h fa) (fun _ _ => 1) l
theorem aHook_ok {E : Env} {P : Program} (h1 : CxOk E P (tyOf P) cx1) (h2 : CallOk E P call1) : CallOk E P (fun G l h fa k => bc (Nat.beq G 10) (aHook l h fa k) 1) := lone_ok (callS_run h1 0 (aIn_ok h2 FaOk.nil)) FaOk.nil trivial a_run
end Go.Ev.X
end
