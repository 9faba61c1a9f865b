/-
  A case of the law, over its calls.
-/
import Derived.Test.YtapeacnagpphjaaGreatNC0
import Derived.Test.YtapeacnagpphjaaGreatNC1
import Derived.Test.YtapeacnagpphjaaGreatNC7
import Derived.Test.YtapeacnagpphjaaGreatNC22
import Derived.Test.YtapeacnagpphjaaGreatNC24
import Derived.Test.YtapeacnagpphjaaGreatNC41
import Derived.Test.YtapeacnagpphjaaGreatNC44
import Derived.Test.YtapeacnagpphjaaGreatNC47
import Derived.Test.YtapeacnagpphjaaGreatNC50
import Derived.Test.YtapeacnagpphjaaGreatNC53
import Derived.Test.YtapeacnagpphjaaGreatNC57
import Derived.Test.YtapeacnagpphjaaGreatNC62
import Derived.Test.YtapeacnagpphjaaGreatNC64
import Derived.Test.YtapeacnagpphjaaGreatNC69
import Derived.Test.YtapeacnagpphjaaGreatNC71
import Derived.Test.YtapeacnagpphjaaGreatNC77
import Derived.Test.YtapeacnagpphjaaGreatNC79
import Derived.Test.YtapeacnagpphjaaGreatAX
import Derived.Test.YtapeacnagpphjaaGreatEvSp
set_option linter.unusedSimpArgs false
set_option linter.unusedVariables false
set_option maxRecDepth 100000
noncomputable section
namespace Go.Ev.X
open Go Go.Ev
def nIn1 : CallT := (memoS nm0 (memoS nm1 (memoS nm2 (memoS nm3 (memoS nm4 (memoS nm5 (memoS nm6 (memoS nm7 (memoS nm8 (memoS nm9 (memoS nm10 (memoS nm11 (memoS nm12 (memoS nm13 (memoS nm14 (memoS nm15 (memoS nm16 (memoS nm17 (memoS nm18 (memoS nm19 (memoS nm20 (memoS nm21 (memoS nm56 (memoS nm57 (memoS nm58 (memoS nm59 (memoS nm60 (memoS nm61 (memoS nm28 (memoS nm29 (memoS nm30 (memoS nm31 (memoS nm32 (memoS nm33 (memoS nm34 (memoS nm35 (memoS nm36 (memoS nm37 (memoS nm38 (memoS nm39 (memoS nm40 (memoS nm42 (memoS nm43 (memoS nm45 (memoS nm46 (memoS nm48 (memoS nm49 (memoS nm51 (memoS nm52 (memoS nm54 (memoS nm55 (splitC 26 [(flNx0, memoS nm41 call1), (flNx1, memoS nm44 call1), (flNx2, memoS nm47 call1), (flNx3, memoS nm50 call1), (flNx4, memoS nm53 call1)] callA))))))))))))))))))))))))))))))))))))))))))))))))))))
theorem n_run1 : callS cx1 0 nIn1 5 argsN ⟨.h, .h, .e⟩ ⟨flNm1, rrN⟩ endB = 0 := by decide +kernel
theorem nIn1_ok {E : Env} {P : Program} (h1 : CallOk E P call1) (hl : CallOk E P callA) (hc : FaOk E ⟨flN, rrN⟩) (hs : ∃ c ∈ ([(flNx0, memoS nm41 call1), (flNx1, memoS nm44 call1), (flNx2, memoS nm47 call1), (flNx3, memoS nm50 call1), (flNx4, memoS nm53 call1)] : List (List (SB × Bool) × CallT)), (∀ s b, (s, b) ∈ c.1 → s.den E = b) ∧ CallOk E P c.2) (hf : FaOk E ⟨flNm1, rrN⟩) : CallOk E P nIn1 := (msS_ok rfl nt0 FaOk.nil h1 (msS_ok rfl nt1 hc h1 (msS_ok rfl nt2 hc h1 (msS_ok rfl nt3 hc h1 (msS_ok rfl nt4 hc h1 (msS_ok rfl nt5 hc h1 (msS_ok rfl nt6 hc h1 (msS_ok rfl nt7 hc h1 (msS_ok rfl nt8 hc h1 (msS_ok rfl nt9 hc h1 (msS_ok rfl nt10 hc h1 (msS_ok rfl nt11 hc h1 (msS_ok rfl nt12 hc h1 (msS_ok rfl nt13 hc h1 (msS_ok rfl nt14 hc h1 (msS_ok rfl nt15 hc h1 (msS_ok rfl nt16 hc h1 (msS_ok rfl nt17 hc h1 (msS_ok rfl nt18 hc h1 (msS_ok rfl nt19 hc h1 (msS_ok rfl nt20 hc h1 (msS_ok rfl nt21 hc h1 (msS_ok rfl nt56 hf h1 (msS_ok rfl nt57 hf h1 (msS_ok rfl nt58 hf h1 (msS_ok rfl nt59 hf h1 (msS_ok rfl nt60 hf h1 (msS_ok rfl nt61 hf h1 (msS_ok rfl nt28 hc h1 (msS_ok rfl nt29 hc h1 (msS_ok rfl nt30 hc h1 (msS_ok rfl nt31 hc h1 (msS_ok rfl nt32 hc h1 (msS_ok rfl nt33 hc h1 (msS_ok rfl nt34 hc h1 (msS_ok rfl nt35 hc h1 (msS_ok rfl nt36 hc h1 (msS_ok rfl nt37 hc h1 (msS_ok rfl nt38 hc h1 (msS_ok rfl nt39 hc h1 (msS_ok rfl nt40 hc h1 (msS_ok rfl nt42 hc h1 (msS_ok rfl nt43 hc h1 (msS_ok rfl nt45 hc h1 (msS_ok rfl nt46 hc h1 (msS_ok rfl nt48 hc h1 (msS_ok rfl nt49 hc h1 (msS_ok rfl nt51 hc h1 (msS_ok rfl nt52 hc h1 (msS_ok rfl nt54 hc h1 (msS_ok rfl nt55 hc h1 (splitC_ok hl hs))))))))))))))))))))))))))))))))))))))))))))))))))))
end Go.Ev.X
end
