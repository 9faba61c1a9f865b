/-
 What the tables say of the functions.
-/
import Derived.Test.YtgaelfnoffejgaaChecked
import Derived.Test.YtgaelfnoffejgaaSB
set_option linter.unusedSimpArgs false
set_option linter.unusedVariables false
set_option maxRecDepth 100000
noncomputable section
namespace Go.Ev.X
open Go Go.Ev Go.Proofs
theorem c7 : cFn (tyOf Try.prog) dr7 Try.f7 = some i7 := by kernel_rfl
theorem w7 : drawF dr7 Try.f7 = true := by kernel_rfl
theorem g7 : Good Try.prog 7 i7 := good_of Try.func7 Try.call7 c7 w7
theorem g8 : Good Try.prog 8 i8 := good_of (dr := drN) Try.func8 Try.call8 (by kernel_rfl) (by kernel_rfl)
theorem g9 : Good Try.prog 9 i9 := good_of (dr := dr9) Try.func9 Try.call9 (by kernel_rfl) (by kernel_rfl)
theorem g10 : Good Try.prog 10 i10 := good_of (dr := drN) Try.func10 Try.call10 (by kernel_rfl) (by kernel_rfl)
theorem g11 : Good Try.prog 11 i11 := good_of (dr := drN) Try.func11 Try.call11 (by kernel_rfl) (by kernel_rfl)
theorem g12 : Good Try.prog 12 i12 := good_of (dr := drN) Try.func12 Try.call12 (by kernel_rfl) (by kernel_rfl)
theorem g13 : Good Try.prog 13 i13 := good_of (dr := dr13) Try.func13 Try.call13 (by kernel_rfl) (by kernel_rfl)
theorem g14 : Good Try.prog 14 i14 := good_of (dr := drN) Try.func14 Try.call14 (by kernel_rfl) (by kernel_rfl)
theorem g15 : Good Try.prog 15 i15 := good_of (dr := drN) Try.func15 Try.call15 (by kernel_rfl) (by kernel_rfl)
theorem c16 : cFn (tyOf Try.prog) drN Try.f16 = some i16 := by kernel_rfl
theorem w16 : drawF drN Try.f16 = true := by kernel_rfl
theorem g16 : Good Try.prog 16 i16 := good_of Try.func16 Try.call16 c16 w16
theorem g17 : Good Try.prog 17 i17 := good_of (dr := drN) Try.func17 Try.call17 (by kernel_rfl) (by kernel_rfl)
theorem g18 : Good Try.prog 18 i18 := good_of (dr := drN) Try.func18 Try.call18 (by kernel_rfl) (by kernel_rfl)
theorem g19 : Good Try.prog 19 i19 := good_of (dr := drN) Try.func19 Try.call19 (by kernel_rfl) (by kernel_rfl)
theorem g20 : Good Try.prog 20 i20 := good_of (dr := dr20) Try.func20 Try.call20 (by kernel_rfl) (by kernel_rfl)
theorem g21 : Good Try.prog 21 i21 := good_of (dr := drN) Try.func21 Try.call21 (by kernel_rfl) (by kernel_rfl)
theorem g23 : Good Try.prog 23 i23 := good_of (dr := drN) Try.func23 Try.call23 (by kernel_rfl) (by kernel_rfl)
theorem g24 : Good Try.prog 24 i24 := good_of (dr := drN) Try.func24 Try.call24 (by kernel_rfl) (by kernel_rfl)
theorem g25 : Good Try.prog 25 i25 := good_of (dr := drN) Try.func25 Try.call25 (by kernel_rfl) (by kernel_rfl)
theorem g26 : Good Try.prog 26 i26 := good_of (dr := dr26) Try.func26 Try.call26 (by kernel_rfl) (by kernel_rfl)
theorem g27 : Good Try.prog 27 i27 := good_of (dr := drN) Try.func27 Try.call27 (by kernel_rfl) (by kernel_rfl)
theorem g28 : Good Try.prog 28 i28 := good_of (dr := drN) Try.func28 Try.call28 (by kernel_rfl) (by kernel_rfl)
theorem g29 : Good Try.prog 29 i29 := good_of (dr := drN) Try.func29 Try.call29 (by kernel_rfl) (by kernel_rfl)
theorem g30 : Good Try.prog 30 i30 := good_of (dr := drN) Try.func30 Try.call30 (by kernel_rfl) (by kernel_rfl)
theorem g31 : Good Try.prog 31 i31 := good_of (dr := dr31) Try.func31 Try.call31 (by kernel_rfl) (by kernel_rfl)
theorem g32 : Good Try.prog 32 i32 := good_of (dr := drN) Try.func32 Try.call32 (by kernel_rfl) (by kernel_rfl)
theorem c33 : cFn (tyOf Try.prog) drN Try.f33 = some i33 := by kernel_rfl
theorem w33 : drawF drN Try.f33 = true := by kernel_rfl
theorem g33 : Good Try.prog 33 i33 := good_of Try.func33 Try.call33 c33 w33
theorem g34 : Good Try.prog 34 i34 := good_of (dr := drN) Try.func34 Try.call34 (by kernel_rfl) (by kernel_rfl)
theorem g35 : Good Try.prog 35 i35 := good_of (dr := drN) Try.func35 Try.call35 (by kernel_rfl) (by kernel_rfl)
theorem g36 : Good Try.prog 36 i36 := good_of (dr := drN) Try.func36 Try.call36 (by kernel_rfl) (by kernel_rfl)
theorem g37 : Good Try.prog 37 i37 := good_of (dr := drN) Try.func37 Try.call37 (by kernel_rfl) (by kernel_rfl)
theorem g38 : Good Try.prog 38 i38 := good_of (dr := drN) Try.func38 Try.call38 (by kernel_rfl) (by kernel_rfl)
theorem g39 : Good Try.prog 39 i39 := good_of (dr := drN) Try.func39 Try.call39 (by kernel_rfl) (by kernel_rfl)
theorem g40 : Good Try.prog 40 i40 := good_of (dr := drN) Try.func40 Try.call40 (by kernel_rfl) (by kernel_rfl)
theorem g41 : Good Try.prog 41 i41 := good_of (dr := drN) Try.func41 Try.call41 (by kernel_rfl) (by kernel_rfl)
theorem g42 : Good Try.prog 42 i42 := good_of (dr := drN) Try.func42 Try.call42 (by kernel_rfl) (by kernel_rfl)
theorem g43 : Good Try.prog 43 i43 := good_of (dr := drN) Try.func43 Try.call43 (by kernel_rfl) (by kernel_rfl)
theorem g44 : Good Try.prog 44 i44 := good_of (dr := drN) Try.func44 Try.call44 (by kernel_rfl) (by kernel_rfl)
theorem g45 : Good Try.prog 45 i45 := good_of (dr := drN) Try.func45 Try.call45 (by kernel_rfl) (by kernel_rfl)
theorem g46 : Good Try.prog 46 i46 := good_of (dr := drN) Try.func46 Try.call46 (by kernel_rfl) (by kernel_rfl)
theorem g47 : Good Try.prog 47 i47 := good_of (dr := drN) Try.func47 Try.call47 (by kernel_rfl) (by kernel_rfl)
theorem g48 : Good Try.prog 48 i48 := good_of (dr := dr48) Try.func48 Try.call48 (by kernel_rfl) (by kernel_rfl)
theorem g49 : Good Try.prog 49 i49 := good_of (dr := drN) Try.func49 Try.call49 (by kernel_rfl) (by kernel_rfl)
theorem g50 : Good Try.prog 50 i50 := good_of (dr := drN) Try.func50 Try.call50 (by kernel_rfl) (by kernel_rfl)
theorem g51 : Good Try.prog 51 i51 := good_of (dr := drN) Try.func51 Try.call51 (by kernel_rfl) (by kernel_rfl)
theorem g52 : Good Try.prog 52 i52 := good_of (dr := dr52) Try.func52 Try.call52 (by kernel_rfl) (by kernel_rfl)
theorem g53 : Good Try.prog 53 i53 := good_of (dr := drN) Try.func53 Try.call53 (by kernel_rfl) (by kernel_rfl)
theorem g54 : Good Try.prog 54 i54 := good_of (dr := drN) Try.func54 Try.call54 (by kernel_rfl) (by kernel_rfl)
theorem g55 : Good Try.prog 55 i55 := good_of (dr := drN) Try.func55 Try.call55 (by kernel_rfl) (by kernel_rfl)
theorem g56 : Good Try.prog 56 i56 := good_of (dr := dr56) Try.func56 Try.call56 (by kernel_rfl) (by kernel_rfl)
theorem g57 : Good Try.prog 57 i57 := good_of (dr := drN) Try.func57 Try.call57 (by kernel_rfl) (by kernel_rfl)
theorem g58 : Good Try.prog 58 i58 := good_of (dr := drN) Try.func58 Try.call58 (by kernel_rfl) (by kernel_rfl)
theorem g59 : Good Try.prog 59 i59 := good_of (dr := drN) Try.func59 Try.call59 (by kernel_rfl) (by kernel_rfl)
theorem g60 : Good Try.prog 60 i60 := good_of (dr := drN) Try.func60 Try.call60 (by kernel_rfl) (by kernel_rfl)
theorem g61 : Good Try.prog 61 i61 := good_of (dr := drN) Try.func61 Try.call61 (by kernel_rfl) (by kernel_rfl)
theorem g63 : Good Try.prog 63 i63 := good_of (dr := drN) Try.func63 Try.call63 (by kernel_rfl) (by kernel_rfl)
theorem g64 : Good Try.prog 64 i64 := good_of (dr := drN) Try.func64 Try.call64 (by kernel_rfl) (by kernel_rfl)
theorem g65 : Good Try.prog 65 i65 := good_of (dr := drN) Try.func65 Try.call65 (by kernel_rfl) (by kernel_rfl)
theorem g66 : Good Try.prog 66 i66 := good_of (dr := drN) Try.func66 Try.call66 (by kernel_rfl) (by kernel_rfl)
theorem g67 : Good Try.prog 67 i67 := good_of (dr := drN) Try.func67 Try.call67 (by kernel_rfl) (by kernel_rfl)
theorem g68 : Good Try.prog 68 i68 := good_of (dr := drN) Try.func68 Try.call68 (by kernel_rfl) (by kernel_rfl)
theorem g69 : Good Try.prog 69 i69 := good_of (dr := drN) Try.func69 Try.call69 (by kernel_rfl) (by kernel_rfl)
theorem g70 : Good Try.prog 70 i70 := good_of (dr := drN) Try.func70 Try.call70 (by kernel_rfl) (by kernel_rfl)
theorem g71 : Good Try.prog 71 i71 := good_of (dr := drN) Try.func71 Try.call71 (by kernel_rfl) (by kernel_rfl)
theorem g72 : Good Try.prog 72 i72 := good_of (dr := drN) Try.func72 Try.call72 (by kernel_rfl) (by kernel_rfl)
theorem g73 : Good Try.prog 73 i73 := good_of (dr := drN) Try.func73 Try.call73 (by kernel_rfl) (by kernel_rfl)
theorem g74 : Good Try.prog 74 i74 := good_of (dr := drN) Try.func74 Try.call74 (by kernel_rfl) (by kernel_rfl)
theorem g75 : Good Try.prog 75 i75 := good_of (dr := drN) Try.func75 Try.call75 (by kernel_rfl) (by kernel_rfl)
theorem g76 : Good Try.prog 76 i76 := good_of (dr := drN) Try.func76 Try.call76 (by kernel_rfl) (by kernel_rfl)
theorem mixedX : Try.prog.follows .mixedOrders = true := by kernel_rfl
end Go.Ev.X
end
