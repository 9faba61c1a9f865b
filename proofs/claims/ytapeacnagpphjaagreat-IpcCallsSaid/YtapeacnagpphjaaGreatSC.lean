/-
  What the tables say of the functions.
-/
import Derived.Test.YtapeacnagpphjaaGreatProg
import Derived.Test.YtapeacnagpphjaaGreatSB
set_option linter.unusedSimpArgs false
set_option linter.unusedVariables false
set_option maxRecDepth 100000
noncomputable section
namespace Go.Ev.X
open Go Go.Ev Go.Proofs
theorem c3 : cFn (tyOf Tryz.prog) dr3 Tryz.f3 = some i3 := by kernel_rfl
theorem w3 : drawF dr3 Tryz.f3 = true := by kernel_rfl
theorem g3 : Good Tryz.prog 3 i3 := good_of Tryz.func3 Tryz.call3 c3 w3
theorem c4 : cFn (tyOf Tryz.prog) dr4 Tryz.f4 = some i4 := by kernel_rfl
theorem w4 : drawF dr4 Tryz.f4 = true := by kernel_rfl
theorem g4 : Good Tryz.prog 4 i4 := good_of Tryz.func4 Tryz.call4 c4 w4
theorem c5 : cFn (tyOf Tryz.prog) dr5 Tryz.f5 = some i5 := by kernel_rfl
theorem w5 : drawF dr5 Tryz.f5 = true := by kernel_rfl
theorem g5 : Good Tryz.prog 5 i5 := good_of Tryz.func5 Tryz.call5 c5 w5
theorem c10 : cFn (tyOf Tryz.prog) dr10 Tryz.f10 = some i10 := by kernel_rfl
theorem w10 : drawF dr10 Tryz.f10 = true := by kernel_rfl
theorem g10 : Good Tryz.prog 10 i10 := good_of Tryz.func10 Tryz.call10 c10 w10
theorem c11 : cFn (tyOf Tryz.prog) dr11 Tryz.f11 = some i11 := by kernel_rfl
theorem w11 : drawF dr11 Tryz.f11 = true := by kernel_rfl
theorem g11 : Good Tryz.prog 11 i11 := good_of Tryz.func11 Tryz.call11 c11 w11
theorem c12 : cFn (tyOf Tryz.prog) dr12 Tryz.f12 = some i12 := by kernel_rfl
theorem w12 : drawF dr12 Tryz.f12 = true := by kernel_rfl
theorem g12 : Good Tryz.prog 12 i12 := good_of Tryz.func12 Tryz.call12 c12 w12
theorem c13 : cFn (tyOf Tryz.prog) dr13 Tryz.f13 = some i13 := by kernel_rfl
theorem w13 : drawF dr13 Tryz.f13 = true := by kernel_rfl
theorem g13 : Good Tryz.prog 13 i13 := good_of Tryz.func13 Tryz.call13 c13 w13
theorem c14 : cFn (tyOf Tryz.prog) dr14 Tryz.f14 = some i14 := by kernel_rfl
theorem w14 : drawF dr14 Tryz.f14 = true := by kernel_rfl
theorem g14 : Good Tryz.prog 14 i14 := good_of Tryz.func14 Tryz.call14 c14 w14
theorem c15 : cFn (tyOf Tryz.prog) dr15 Tryz.f15 = some i15 := by kernel_rfl
theorem w15 : drawF dr15 Tryz.f15 = true := by kernel_rfl
theorem g15 : Good Tryz.prog 15 i15 := good_of Tryz.func15 Tryz.call15 c15 w15
theorem c16 : cFn (tyOf Tryz.prog) dr16 Tryz.f16 = some i16 := by kernel_rfl
theorem w16 : drawF dr16 Tryz.f16 = true := by kernel_rfl
theorem g16 : Good Tryz.prog 16 i16 := good_of Tryz.func16 Tryz.call16 c16 w16
theorem c17 : cFn (tyOf Tryz.prog) dr17 Tryz.f17 = some i17 := by kernel_rfl
theorem w17 : drawF dr17 Tryz.f17 = true := by kernel_rfl
theorem g17 : Good Tryz.prog 17 i17 := good_of Tryz.func17 Tryz.call17 c17 w17
theorem c18 : cFn (tyOf Tryz.prog) dr18 Tryz.f18 = some i18 := by kernel_rfl
theorem w18 : drawF dr18 Tryz.f18 = true := by kernel_rfl
theorem g18 : Good Tryz.prog 18 i18 := good_of Tryz.func18 Tryz.call18 c18 w18
theorem c19 : cFn (tyOf Tryz.prog) dr19 Tryz.f19 = some i19 := by kernel_rfl
theorem w19 : drawF dr19 Tryz.f19 = true := by kernel_rfl
theorem g19 : Good Tryz.prog 19 i19 := good_of Tryz.func19 Tryz.call19 c19 w19
theorem c20 : cFn (tyOf Tryz.prog) dr20 Tryz.f20 = some i20 := by kernel_rfl
theorem w20 : drawF dr20 Tryz.f20 = true := by kernel_rfl
theorem g20 : Good Tryz.prog 20 i20 := good_of Tryz.func20 Tryz.call20 c20 w20
theorem c21 : cFn (tyOf Tryz.prog) dr21 Tryz.f21 = some i21 := by kernel_rfl
theorem w21 : drawF dr21 Tryz.f21 = true := by kernel_rfl
theorem g21 : Good Tryz.prog 21 i21 := good_of Tryz.func21 Tryz.call21 c21 w21
theorem c22 : cFn (tyOf Tryz.prog) dr22 Tryz.f22 = some i22 := by kernel_rfl
theorem w22 : drawF dr22 Tryz.f22 = true := by kernel_rfl
theorem g22 : Good Tryz.prog 22 i22 := good_of Tryz.func22 Tryz.call22 c22 w22
theorem c23 : cFn (tyOf Tryz.prog) dr23 Tryz.f23 = some i23 := by kernel_rfl
theorem w23 : drawF dr23 Tryz.f23 = true := by kernel_rfl
theorem g23 : Good Tryz.prog 23 i23 := good_of Tryz.func23 Tryz.call23 c23 w23
theorem c24 : cFn (tyOf Tryz.prog) dr24 Tryz.f24 = some i24 := by kernel_rfl
theorem w24 : drawF dr24 Tryz.f24 = true := by kernel_rfl
theorem g24 : Good Tryz.prog 24 i24 := good_of Tryz.func24 Tryz.call24 c24 w24
theorem c25 : cFn (tyOf Tryz.prog) dr25 Tryz.f25 = some i25 := by kernel_rfl
theorem w25 : drawF dr25 Tryz.f25 = true := by kernel_rfl
theorem g25 : Good Tryz.prog 25 i25 := good_of Tryz.func25 Tryz.call25 c25 w25
theorem c26 : cFn (tyOf Tryz.prog) dr26 Tryz.f26 = some i26 := by kernel_rfl
theorem w26 : drawF dr26 Tryz.f26 = true := by kernel_rfl
theorem g26 : Good Tryz.prog 26 i26 := good_of Tryz.func26 Tryz.call26 c26 w26
theorem c27 : cFn (tyOf Tryz.prog) dr27 Tryz.f27 = some i27 := by kernel_rfl
theorem w27 : drawF dr27 Tryz.f27 = true := by kernel_rfl
theorem g27 : Good Tryz.prog 27 i27 := good_of Tryz.func27 Tryz.call27 c27 w27
theorem c28 : cFn (tyOf Tryz.prog) dr28 Tryz.f28 = some i28 := by kernel_rfl
theorem w28 : drawF dr28 Tryz.f28 = true := by kernel_rfl
theorem g28 : Good Tryz.prog 28 i28 := good_of Tryz.func28 Tryz.call28 c28 w28
theorem c29 : cFn (tyOf Tryz.prog) dr29 Tryz.f29 = some i29 := by kernel_rfl
theorem w29 : drawF dr29 Tryz.f29 = true := by kernel_rfl
theorem g29 : Good Tryz.prog 29 i29 := good_of Tryz.func29 Tryz.call29 c29 w29
theorem c34 : cFn (tyOf Tryz.prog) dr34 Tryz.f34 = some i34 := by kernel_rfl
theorem w34 : drawF dr34 Tryz.f34 = true := by kernel_rfl
theorem g34 : Good Tryz.prog 34 i34 := good_of Tryz.func34 Tryz.call34 c34 w34
theorem c35 : cFn (tyOf Tryz.prog) dr35 Tryz.f35 = some i35 := by kernel_rfl
theorem w35 : drawF dr35 Tryz.f35 = true := by kernel_rfl
theorem g35 : Good Tryz.prog 35 i35 := good_of Tryz.func35 Tryz.call35 c35 w35
theorem c36 : cFn (tyOf Tryz.prog) dr36 Tryz.f36 = some i36 := by kernel_rfl
theorem w36 : drawF dr36 Tryz.f36 = true := by kernel_rfl
theorem g36 : Good Tryz.prog 36 i36 := good_of Tryz.func36 Tryz.call36 c36 w36
theorem c37 : cFn (tyOf Tryz.prog) dr37 Tryz.f37 = some i37 := by kernel_rfl
theorem w37 : drawF dr37 Tryz.f37 = true := by kernel_rfl
theorem g37 : Good Tryz.prog 37 i37 := good_of Tryz.func37 Tryz.call37 c37 w37
theorem c38 : cFn (tyOf Tryz.prog) dr38 Tryz.f38 = some i38 := by kernel_rfl
theorem w38 : drawF dr38 Tryz.f38 = true := by kernel_rfl
theorem g38 : Good Tryz.prog 38 i38 := good_of Tryz.func38 Tryz.call38 c38 w38
theorem c39 : cFn (tyOf Tryz.prog) dr39 Tryz.f39 = some i39 := by kernel_rfl
theorem w39 : drawF dr39 Tryz.f39 = true := by kernel_rfl
theorem g39 : Good Tryz.prog 39 i39 := good_of Tryz.func39 Tryz.call39 c39 w39
theorem c40 : cFn (tyOf Tryz.prog) dr40 Tryz.f40 = some i40 := by kernel_rfl
theorem w40 : drawF dr40 Tryz.f40 = true := by kernel_rfl
theorem g40 : Good Tryz.prog 40 i40 := good_of Tryz.func40 Tryz.call40 c40 w40
theorem c41 : cFn (tyOf Tryz.prog) dr41 Tryz.f41 = some i41 := by kernel_rfl
theorem w41 : drawF dr41 Tryz.f41 = true := by kernel_rfl
theorem g41 : Good Tryz.prog 41 i41 := good_of Tryz.func41 Tryz.call41 c41 w41
theorem c42 : cFn (tyOf Tryz.prog) dr42 Tryz.f42 = some i42 := by kernel_rfl
theorem w42 : drawF dr42 Tryz.f42 = true := by kernel_rfl
theorem g42 : Good Tryz.prog 42 i42 := good_of Tryz.func42 Tryz.call42 c42 w42
theorem c43 : cFn (tyOf Tryz.prog) dr43 Tryz.f43 = some i43 := by kernel_rfl
theorem w43 : drawF dr43 Tryz.f43 = true := by kernel_rfl
theorem g43 : Good Tryz.prog 43 i43 := good_of Tryz.func43 Tryz.call43 c43 w43
theorem c44 : cFn (tyOf Tryz.prog) dr44 Tryz.f44 = some i44 := by kernel_rfl
theorem w44 : drawF dr44 Tryz.f44 = true := by kernel_rfl
theorem g44 : Good Tryz.prog 44 i44 := good_of Tryz.func44 Tryz.call44 c44 w44
theorem c45 : cFn (tyOf Tryz.prog) dr45 Tryz.f45 = some i45 := by kernel_rfl
theorem w45 : drawF dr45 Tryz.f45 = true := by kernel_rfl
theorem g45 : Good Tryz.prog 45 i45 := good_of Tryz.func45 Tryz.call45 c45 w45
theorem c46 : cFn (tyOf Tryz.prog) dr46 Tryz.f46 = some i46 := by kernel_rfl
theorem w46 : drawF dr46 Tryz.f46 = true := by kernel_rfl
theorem g46 : Good Tryz.prog 46 i46 := good_of Tryz.func46 Tryz.call46 c46 w46
theorem c47 : cFn (tyOf Tryz.prog) dr47 Tryz.f47 = some i47 := by kernel_rfl
theorem w47 : drawF dr47 Tryz.f47 = true := by kernel_rfl
theorem g47 : Good Tryz.prog 47 i47 := good_of Tryz.func47 Tryz.call47 c47 w47
theorem c49 : cFn (tyOf Tryz.prog) dr49 Tryz.f49 = some i49 := by kernel_rfl
theorem w49 : drawF dr49 Tryz.f49 = true := by kernel_rfl
theorem g49 : Good Tryz.prog 49 i49 := good_of Tryz.func49 Tryz.call49 c49 w49
theorem c50 : cFn (tyOf Tryz.prog) dr50 Tryz.f50 = some i50 := by kernel_rfl
theorem w50 : drawF dr50 Tryz.f50 = true := by kernel_rfl
theorem g50 : Good Tryz.prog 50 i50 := good_of Tryz.func50 Tryz.call50 c50 w50
theorem c51 : cFn (tyOf Tryz.prog) dr51 Tryz.f51 = some i51 := by kernel_rfl
theorem w51 : drawF dr51 Tryz.f51 = true := by kernel_rfl
theorem g51 : Good Tryz.prog 51 i51 := good_of Tryz.func51 Tryz.call51 c51 w51
theorem c52 : cFn (tyOf Tryz.prog) dr52 Tryz.f52 = some i52 := by kernel_rfl
theorem w52 : drawF dr52 Tryz.f52 = true := by kernel_rfl
theorem g52 : Good Tryz.prog 52 i52 := good_of Tryz.func52 Tryz.call52 c52 w52
theorem c53 : cFn (tyOf Tryz.prog) dr53 Tryz.f53 = some i53 := by kernel_rfl
theorem w53 : drawF dr53 Tryz.f53 = true := by kernel_rfl
theorem g53 : Good Tryz.prog 53 i53 := good_of Tryz.func53 Tryz.call53 c53 w53
theorem c54 : cFn (tyOf Tryz.prog) dr54 Tryz.f54 = some i54 := by kernel_rfl
theorem w54 : drawF dr54 Tryz.f54 = true := by kernel_rfl
theorem g54 : Good Tryz.prog 54 i54 := good_of Tryz.func54 Tryz.call54 c54 w54
theorem c55 : cFn (tyOf Tryz.prog) dr55 Tryz.f55 = some i55 := by kernel_rfl
theorem w55 : drawF dr55 Tryz.f55 = true := by kernel_rfl
theorem g55 : Good Tryz.prog 55 i55 := good_of Tryz.func55 Tryz.call55 c55 w55
theorem c56 : cFn (tyOf Tryz.prog) dr56 Tryz.f56 = some i56 := by kernel_rfl
theorem w56 : drawF dr56 Tryz.f56 = true := by kernel_rfl
theorem g56 : Good Tryz.prog 56 i56 := good_of Tryz.func56 Tryz.call56 c56 w56
theorem c57 : cFn (tyOf Tryz.prog) dr57 Tryz.f57 = some i57 := by kernel_rfl
theorem w57 : drawF dr57 Tryz.f57 = true := by kernel_rfl
theorem g57 : Good Tryz.prog 57 i57 := good_of Tryz.func57 Tryz.call57 c57 w57
theorem c58 : cFn (tyOf Tryz.prog) dr58 Tryz.f58 = some i58 := by kernel_rfl
theorem w58 : drawF dr58 Tryz.f58 = true := by kernel_rfl
theorem g58 : Good Tryz.prog 58 i58 := good_of Tryz.func58 Tryz.call58 c58 w58
theorem c59 : cFn (tyOf Tryz.prog) dr59 Tryz.f59 = some i59 := by kernel_rfl
theorem w59 : drawF dr59 Tryz.f59 = true := by kernel_rfl
theorem g59 : Good Tryz.prog 59 i59 := good_of Tryz.func59 Tryz.call59 c59 w59
theorem c60 : cFn (tyOf Tryz.prog) dr60 Tryz.f60 = some i60 := by kernel_rfl
theorem w60 : drawF dr60 Tryz.f60 = true := by kernel_rfl
theorem g60 : Good Tryz.prog 60 i60 := good_of Tryz.func60 Tryz.call60 c60 w60
theorem c61 : cFn (tyOf Tryz.prog) dr61 Tryz.f61 = some i61 := by kernel_rfl
theorem w61 : drawF dr61 Tryz.f61 = true := by kernel_rfl
theorem g61 : Good Tryz.prog 61 i61 := good_of Tryz.func61 Tryz.call61 c61 w61
theorem c62 : cFn (tyOf Tryz.prog) dr62 Tryz.f62 = some i62 := by kernel_rfl
theorem w62 : drawF dr62 Tryz.f62 = true := by kernel_rfl
theorem g62 : Good Tryz.prog 62 i62 := good_of Tryz.func62 Tryz.call62 c62 w62
theorem c63 : cFn (tyOf Tryz.prog) dr63 Tryz.f63 = some i63 := by kernel_rfl
theorem w63 : drawF dr63 Tryz.f63 = true := by kernel_rfl
theorem g63 : Good Tryz.prog 63 i63 := good_of Tryz.func63 Tryz.call63 c63 w63
theorem c64 : cFn (tyOf Tryz.prog) dr64 Tryz.f64 = some i64 := by kernel_rfl
theorem w64 : drawF dr64 Tryz.f64 = true := by kernel_rfl
theorem g64 : Good Tryz.prog 64 i64 := good_of Tryz.func64 Tryz.call64 c64 w64
theorem c65 : cFn (tyOf Tryz.prog) dr65 Tryz.f65 = some i65 := by kernel_rfl
theorem w65 : drawF dr65 Tryz.f65 = true := by kernel_rfl
theorem g65 : Good Tryz.prog 65 i65 := good_of Tryz.func65 Tryz.call65 c65 w65
theorem c66 : cFn (tyOf Tryz.prog) dr66 Tryz.f66 = some i66 := by kernel_rfl
theorem w66 : drawF dr66 Tryz.f66 = true := by kernel_rfl
theorem g66 : Good Tryz.prog 66 i66 := good_of Tryz.func66 Tryz.call66 c66 w66
theorem c67 : cFn (tyOf Tryz.prog) dr67 Tryz.f67 = some i67 := by kernel_rfl
theorem w67 : drawF dr67 Tryz.f67 = true := by kernel_rfl
theorem g67 : Good Tryz.prog 67 i67 := good_of Tryz.func67 Tryz.call67 c67 w67
theorem c68 : cFn (tyOf Tryz.prog) dr68 Tryz.f68 = some i68 := by kernel_rfl
theorem w68 : drawF dr68 Tryz.f68 = true := by kernel_rfl
theorem g68 : Good Tryz.prog 68 i68 := good_of Tryz.func68 Tryz.call68 c68 w68
theorem c69 : cFn (tyOf Tryz.prog) dr69 Tryz.f69 = some i69 := by kernel_rfl
theorem w69 : drawF dr69 Tryz.f69 = true := by kernel_rfl
theorem g69 : Good Tryz.prog 69 i69 := good_of Tryz.func69 Tryz.call69 c69 w69
theorem c81 : cFn (tyOf Tryz.prog) dr81 Tryz.f81 = some i81 := by kernel_rfl
theorem w81 : drawF dr81 Tryz.f81 = true := by kernel_rfl
theorem g81 : Good Tryz.prog 81 i81 := good_of Tryz.func81 Tryz.call81 c81 w81
theorem c82 : cFn (tyOf Tryz.prog) dr82 Tryz.f82 = some i82 := by kernel_rfl
theorem w82 : drawF dr82 Tryz.f82 = true := by kernel_rfl
theorem g82 : Good Tryz.prog 82 i82 := good_of Tryz.func82 Tryz.call82 c82 w82
theorem c83 : cFn (tyOf Tryz.prog) dr83 Tryz.f83 = some i83 := by kernel_rfl
theorem w83 : drawF dr83 Tryz.f83 = true := by kernel_rfl
theorem g83 : Good Tryz.prog 83 i83 := good_of Tryz.func83 Tryz.call83 c83 w83
theorem c84 : cFn (tyOf Tryz.prog) dr84 Tryz.f84 = some i84 := by kernel_rfl
theorem w84 : drawF dr84 Tryz.f84 = true := by kernel_rfl
theorem g84 : Good Tryz.prog 84 i84 := good_of Tryz.func84 Tryz.call84 c84 w84
theorem c85 : cFn (tyOf Tryz.prog) dr85 Tryz.f85 = some i85 := by kernel_rfl
theorem w85 : drawF dr85 Tryz.f85 = true := by kernel_rfl
theorem g85 : Good Tryz.prog 85 i85 := good_of Tryz.func85 Tryz.call85 c85 w85
theorem c86 : cFn (tyOf Tryz.prog) dr86 Tryz.f86 = some i86 := by kernel_rfl
theorem w86 : drawF dr86 Tryz.f86 = true := by kernel_rfl
theorem g86 : Good Tryz.prog 86 i86 := good_of Tryz.func86 Tryz.call86 c86 w86
theorem c87 : cFn (tyOf Tryz.prog) dr87 Tryz.f87 = some i87 := by kernel_rfl
theorem w87 : drawF dr87 Tryz.f87 = true := by kernel_rfl
theorem g87 : Good Tryz.prog 87 i87 := good_of Tryz.func87 Tryz.call87 c87 w87
theorem c88 : cFn (tyOf Tryz.prog) dr88 Tryz.f88 = some i88 := by kernel_rfl
theorem w88 : drawF dr88 Tryz.f88 = true := by kernel_rfl
theorem g88 : Good Tryz.prog 88 i88 := good_of Tryz.func88 Tryz.call88 c88 w88
theorem c89 : cFn (tyOf Tryz.prog) dr89 Tryz.f89 = some i89 := by kernel_rfl
theorem w89 : drawF dr89 Tryz.f89 = true := by kernel_rfl
theorem g89 : Good Tryz.prog 89 i89 := good_of Tryz.func89 Tryz.call89 c89 w89
theorem c90 : cFn (tyOf Tryz.prog) dr90 Tryz.f90 = some i90 := by kernel_rfl
theorem w90 : drawF dr90 Tryz.f90 = true := by kernel_rfl
theorem g90 : Good Tryz.prog 90 i90 := good_of Tryz.func90 Tryz.call90 c90 w90
theorem c91 : cFn (tyOf Tryz.prog) dr91 Tryz.f91 = some i91 := by kernel_rfl
theorem w91 : drawF dr91 Tryz.f91 = true := by kernel_rfl
theorem g91 : Good Tryz.prog 91 i91 := good_of Tryz.func91 Tryz.call91 c91 w91
theorem c92 : cFn (tyOf Tryz.prog) dr92 Tryz.f92 = some i92 := by kernel_rfl
theorem w92 : drawF dr92 Tryz.f92 = true := by kernel_rfl
theorem g92 : Good Tryz.prog 92 i92 := good_of Tryz.func92 Tryz.call92 c92 w92
theorem c93 : cFn (tyOf Tryz.prog) dr93 Tryz.f93 = some i93 := by kernel_rfl
theorem w93 : drawF dr93 Tryz.f93 = true := by kernel_rfl
theorem g93 : Good Tryz.prog 93 i93 := good_of Tryz.func93 Tryz.call93 c93 w93
theorem c97 : cFn (tyOf Tryz.prog) dr97 Tryz.f97 = some i97 := by kernel_rfl
theorem w97 : drawF dr97 Tryz.f97 = true := by kernel_rfl
theorem g97 : Good Tryz.prog 97 i97 := good_of Tryz.func97 Tryz.call97 c97 w97
theorem c98 : cFn (tyOf Tryz.prog) dr98 Tryz.f98 = some i98 := by kernel_rfl
theorem w98 : drawF dr98 Tryz.f98 = true := by kernel_rfl
theorem g98 : Good Tryz.prog 98 i98 := good_of Tryz.func98 Tryz.call98 c98 w98
theorem c100 : cFn (tyOf Tryz.prog) dr100 Tryz.f100 = some i100 := by kernel_rfl
theorem w100 : drawF dr100 Tryz.f100 = true := by kernel_rfl
theorem g100 : Good Tryz.prog 100 i100 := good_of Tryz.func100 Tryz.call100 c100 w100
theorem c103 : cFn (tyOf Tryz.prog) dr103 Tryz.f103 = some i103 := by kernel_rfl
theorem w103 : drawF dr103 Tryz.f103 = true := by kernel_rfl
theorem g103 : Good Tryz.prog 103 i103 := good_of Tryz.func103 Tryz.call103 c103 w103
theorem c104 : cFn (tyOf Tryz.prog) dr104 Tryz.f104 = some i104 := by kernel_rfl
theorem w104 : drawF dr104 Tryz.f104 = true := by kernel_rfl
theorem g104 : Good Tryz.prog 104 i104 := good_of Tryz.func104 Tryz.call104 c104 w104
theorem c105 : cFn (tyOf Tryz.prog) dr105 Tryz.f105 = some i105 := by kernel_rfl
theorem w105 : drawF dr105 Tryz.f105 = true := by kernel_rfl
theorem g105 : Good Tryz.prog 105 i105 := good_of Tryz.func105 Tryz.call105 c105 w105
theorem c106 : cFn (tyOf Tryz.prog) dr106 Tryz.f106 = some i106 := by kernel_rfl
theorem w106 : drawF dr106 Tryz.f106 = true := by kernel_rfl
theorem g106 : Good Tryz.prog 106 i106 := good_of Tryz.func106 Tryz.call106 c106 w106
theorem c107 : cFn (tyOf Tryz.prog) dr107 Tryz.f107 = some i107 := by kernel_rfl
theorem w107 : drawF dr107 Tryz.f107 = true := by kernel_rfl
theorem g107 : Good Tryz.prog 107 i107 := good_of Tryz.func107 Tryz.call107 c107 w107
theorem c108 : cFn (tyOf Tryz.prog) dr108 Tryz.f108 = some i108 := by kernel_rfl
theorem w108 : drawF dr108 Tryz.f108 = true := by kernel_rfl
theorem g108 : Good Tryz.prog 108 i108 := good_of Tryz.func108 Tryz.call108 c108 w108
theorem c109 : cFn (tyOf Tryz.prog) dr109 Tryz.f109 = some i109 := by kernel_rfl
theorem w109 : drawF dr109 Tryz.f109 = true := by kernel_rfl
theorem g109 : Good Tryz.prog 109 i109 := good_of Tryz.func109 Tryz.call109 c109 w109
theorem c110 : cFn (tyOf Tryz.prog) dr110 Tryz.f110 = some i110 := by kernel_rfl
theorem w110 : drawF dr110 Tryz.f110 = true := by kernel_rfl
theorem g110 : Good Tryz.prog 110 i110 := good_of Tryz.func110 Tryz.call110 c110 w110
theorem c111 : cFn (tyOf Tryz.prog) dr111 Tryz.f111 = some i111 := by kernel_rfl
theorem w111 : drawF dr111 Tryz.f111 = true := by kernel_rfl
theorem g111 : Good Tryz.prog 111 i111 := good_of Tryz.func111 Tryz.call111 c111 w111
theorem c112 : cFn (tyOf Tryz.prog) dr112 Tryz.f112 = some i112 := by kernel_rfl
theorem w112 : drawF dr112 Tryz.f112 = true := by kernel_rfl
theorem g112 : Good Tryz.prog 112 i112 := good_of Tryz.func112 Tryz.call112 c112 w112
theorem c113 : cFn (tyOf Tryz.prog) dr113 Tryz.f113 = some i113 := by kernel_rfl
theorem w113 : drawF dr113 Tryz.f113 = true := by kernel_rfl
theorem g113 : Good Tryz.prog 113 i113 := good_of Tryz.func113 Tryz.call113 c113 w113
theorem c114 : cFn (tyOf Tryz.prog) dr114 Tryz.f114 = some i114 := by kernel_rfl
theorem w114 : drawF dr114 Tryz.f114 = true := by kernel_rfl
theorem g114 : Good Tryz.prog 114 i114 := good_of Tryz.func114 Tryz.call114 c114 w114
theorem c138 : cFn (tyOf Tryz.prog) dr138 Tryz.f138 = some i138 := by kernel_rfl
theorem w138 : drawF dr138 Tryz.f138 = true := by kernel_rfl
theorem g138 : Good Tryz.prog 138 i138 := good_of Tryz.func138 Tryz.call138 c138 w138
theorem c139 : cFn (tyOf Tryz.prog) dr139 Tryz.f139 = some i139 := by kernel_rfl
theorem w139 : drawF dr139 Tryz.f139 = true := by kernel_rfl
theorem g139 : Good Tryz.prog 139 i139 := good_of Tryz.func139 Tryz.call139 c139 w139
theorem c140 : cFn (tyOf Tryz.prog) dr140 Tryz.f140 = some i140 := by kernel_rfl
theorem w140 : drawF dr140 Tryz.f140 = true := by kernel_rfl
theorem g140 : Good Tryz.prog 140 i140 := good_of Tryz.func140 Tryz.call140 c140 w140
theorem c144 : cFn (tyOf Tryz.prog) dr144 Tryz.f144 = some i144 := by kernel_rfl
theorem w144 : drawF dr144 Tryz.f144 = true := by kernel_rfl
theorem g144 : Good Tryz.prog 144 i144 := good_of Tryz.func144 Tryz.call144 c144 w144
theorem c145 : cFn (tyOf Tryz.prog) dr145 Tryz.f145 = some i145 := by kernel_rfl
theorem w145 : drawF dr145 Tryz.f145 = true := by kernel_rfl
theorem g145 : Good Tryz.prog 145 i145 := good_of Tryz.func145 Tryz.call145 c145 w145
theorem c146 : cFn (tyOf Tryz.prog) dr146 Tryz.f146 = some i146 := by kernel_rfl
theorem w146 : drawF dr146 Tryz.f146 = true := by kernel_rfl
theorem g146 : Good Tryz.prog 146 i146 := good_of Tryz.func146 Tryz.call146 c146 w146
theorem c147 : cFn (tyOf Tryz.prog) dr147 Tryz.f147 = some i147 := by kernel_rfl
theorem w147 : drawF dr147 Tryz.f147 = true := by kernel_rfl
theorem g147 : Good Tryz.prog 147 i147 := good_of Tryz.func147 Tryz.call147 c147 w147
theorem c150 : cFn (tyOf Tryz.prog) dr150 Tryz.f150 = some i150 := by kernel_rfl
theorem w150 : drawF dr150 Tryz.f150 = true := by kernel_rfl
theorem g150 : Good Tryz.prog 150 i150 := good_of Tryz.func150 Tryz.call150 c150 w150
theorem c151 : cFn (tyOf Tryz.prog) dr151 Tryz.f151 = some i151 := by kernel_rfl
theorem w151 : drawF dr151 Tryz.f151 = true := by kernel_rfl
theorem g151 : Good Tryz.prog 151 i151 := good_of Tryz.func151 Tryz.call151 c151 w151
theorem c152 : cFn (tyOf Tryz.prog) dr152 Tryz.f152 = some i152 := by kernel_rfl
theorem w152 : drawF dr152 Tryz.f152 = true := by kernel_rfl
theorem g152 : Good Tryz.prog 152 i152 := good_of Tryz.func152 Tryz.call152 c152 w152
theorem c153 : cFn (tyOf Tryz.prog) dr153 Tryz.f153 = some i153 := by kernel_rfl
theorem w153 : drawF dr153 Tryz.f153 = true := by kernel_rfl
theorem g153 : Good Tryz.prog 153 i153 := good_of Tryz.func153 Tryz.call153 c153 w153
theorem c154 : cFn (tyOf Tryz.prog) dr154 Tryz.f154 = some i154 := by kernel_rfl
theorem w154 : drawF dr154 Tryz.f154 = true := by kernel_rfl
theorem g154 : Good Tryz.prog 154 i154 := good_of Tryz.func154 Tryz.call154 c154 w154
theorem c155 : cFn (tyOf Tryz.prog) dr155 Tryz.f155 = some i155 := by kernel_rfl
theorem w155 : drawF dr155 Tryz.f155 = true := by kernel_rfl
theorem g155 : Good Tryz.prog 155 i155 := good_of Tryz.func155 Tryz.call155 c155 w155
theorem c157 : cFn (tyOf Tryz.prog) dr157 Tryz.f157 = some i157 := by kernel_rfl
theorem w157 : drawF dr157 Tryz.f157 = true := by kernel_rfl
theorem g157 : Good Tryz.prog 157 i157 := good_of Tryz.func157 Tryz.call157 c157 w157
theorem c158 : cFn (tyOf Tryz.prog) dr158 Tryz.f158 = some i158 := by kernel_rfl
theorem w158 : drawF dr158 Tryz.f158 = true := by kernel_rfl
theorem g158 : Good Tryz.prog 158 i158 := good_of Tryz.func158 Tryz.call158 c158 w158
theorem c161 : cFn (tyOf Tryz.prog) dr161 Tryz.f161 = some i161 := by kernel_rfl
theorem w161 : drawF dr161 Tryz.f161 = true := by kernel_rfl
theorem g161 : Good Tryz.prog 161 i161 := good_of Tryz.func161 Tryz.call161 c161 w161
theorem c163 : cFn (tyOf Tryz.prog) dr163 Tryz.f163 = some i163 := by kernel_rfl
theorem w163 : drawF dr163 Tryz.f163 = true := by kernel_rfl
theorem g163 : Good Tryz.prog 163 i163 := good_of Tryz.func163 Tryz.call163 c163 w163
theorem c164 : cFn (tyOf Tryz.prog) dr164 Tryz.f164 = some i164 := by kernel_rfl
theorem w164 : drawF dr164 Tryz.f164 = true := by kernel_rfl
theorem g164 : Good Tryz.prog 164 i164 := good_of Tryz.func164 Tryz.call164 c164 w164
theorem c165 : cFn (tyOf Tryz.prog) dr165 Tryz.f165 = some i165 := by kernel_rfl
theorem w165 : drawF dr165 Tryz.f165 = true := by kernel_rfl
theorem g165 : Good Tryz.prog 165 i165 := good_of Tryz.func165 Tryz.call165 c165 w165
theorem c168 : cFn (tyOf Tryz.prog) dr168 Tryz.f168 = some i168 := by kernel_rfl
theorem w168 : drawF dr168 Tryz.f168 = true := by kernel_rfl
theorem g168 : Good Tryz.prog 168 i168 := good_of Tryz.func168 Tryz.call168 c168 w168
theorem c172 : cFn (tyOf Tryz.prog) dr172 Tryz.f172 = some i172 := by kernel_rfl
theorem w172 : drawF dr172 Tryz.f172 = true := by kernel_rfl
theorem g172 : Good Tryz.prog 172 i172 := good_of Tryz.func172 Tryz.call172 c172 w172
theorem c176 : cFn (tyOf Tryz.prog) dr176 Tryz.f176 = some i176 := by kernel_rfl
theorem w176 : drawF dr176 Tryz.f176 = true := by kernel_rfl
theorem g176 : Good Tryz.prog 176 i176 := good_of Tryz.func176 Tryz.call176 c176 w176
theorem c188 : cFn (tyOf Tryz.prog) dr188 Tryz.f188 = some i188 := by kernel_rfl
theorem w188 : drawF dr188 Tryz.f188 = true := by kernel_rfl
theorem g188 : Good Tryz.prog 188 i188 := good_of Tryz.func188 Tryz.call188 c188 w188
theorem c189 : cFn (tyOf Tryz.prog) dr189 Tryz.f189 = some i189 := by kernel_rfl
theorem w189 : drawF dr189 Tryz.f189 = true := by kernel_rfl
theorem g189 : Good Tryz.prog 189 i189 := good_of Tryz.func189 Tryz.call189 c189 w189
theorem c190 : cFn (tyOf Tryz.prog) dr190 Tryz.f190 = some i190 := by kernel_rfl
theorem w190 : drawF dr190 Tryz.f190 = true := by kernel_rfl
theorem g190 : Good Tryz.prog 190 i190 := good_of Tryz.func190 Tryz.call190 c190 w190
theorem c191 : cFn (tyOf Tryz.prog) dr191 Tryz.f191 = some i191 := by kernel_rfl
theorem w191 : drawF dr191 Tryz.f191 = true := by kernel_rfl
theorem g191 : Good Tryz.prog 191 i191 := good_of Tryz.func191 Tryz.call191 c191 w191
theorem c192 : cFn (tyOf Tryz.prog) dr192 Tryz.f192 = some i192 := by kernel_rfl
theorem w192 : drawF dr192 Tryz.f192 = true := by kernel_rfl
theorem g192 : Good Tryz.prog 192 i192 := good_of Tryz.func192 Tryz.call192 c192 w192
theorem c193 : cFn (tyOf Tryz.prog) dr193 Tryz.f193 = some i193 := by kernel_rfl
theorem w193 : drawF dr193 Tryz.f193 = true := by kernel_rfl
theorem g193 : Good Tryz.prog 193 i193 := good_of Tryz.func193 Tryz.call193 c193 w193
theorem c194 : cFn (tyOf Tryz.prog) dr194 Tryz.f194 = some i194 := by kernel_rfl
theorem w194 : drawF dr194 Tryz.f194 = true := by kernel_rfl
theorem g194 : Good Tryz.prog 194 i194 := good_of Tryz.func194 Tryz.call194 c194 w194
theorem c195 : cFn (tyOf Tryz.prog) dr195 Tryz.f195 = some i195 := by kernel_rfl
theorem w195 : drawF dr195 Tryz.f195 = true := by kernel_rfl
theorem g195 : Good Tryz.prog 195 i195 := good_of Tryz.func195 Tryz.call195 c195 w195
theorem c196 : cFn (tyOf Tryz.prog) dr196 Tryz.f196 = some i196 := by kernel_rfl
theorem w196 : drawF dr196 Tryz.f196 = true := by kernel_rfl
theorem g196 : Good Tryz.prog 196 i196 := good_of Tryz.func196 Tryz.call196 c196 w196
theorem c197 : cFn (tyOf Tryz.prog) dr197 Tryz.f197 = some i197 := by kernel_rfl
theorem w197 : drawF dr197 Tryz.f197 = true := by kernel_rfl
theorem g197 : Good Tryz.prog 197 i197 := good_of Tryz.func197 Tryz.call197 c197 w197
theorem c198 : cFn (tyOf Tryz.prog) dr198 Tryz.f198 = some i198 := by kernel_rfl
theorem w198 : drawF dr198 Tryz.f198 = true := by kernel_rfl
theorem g198 : Good Tryz.prog 198 i198 := good_of Tryz.func198 Tryz.call198 c198 w198
theorem c199 : cFn (tyOf Tryz.prog) dr199 Tryz.f199 = some i199 := by kernel_rfl
theorem w199 : drawF dr199 Tryz.f199 = true := by kernel_rfl
theorem g199 : Good Tryz.prog 199 i199 := good_of Tryz.func199 Tryz.call199 c199 w199
theorem c200 : cFn (tyOf Tryz.prog) dr200 Tryz.f200 = some i200 := by kernel_rfl
theorem w200 : drawF dr200 Tryz.f200 = true := by kernel_rfl
theorem g200 : Good Tryz.prog 200 i200 := good_of Tryz.func200 Tryz.call200 c200 w200
theorem c201 : cFn (tyOf Tryz.prog) dr201 Tryz.f201 = some i201 := by kernel_rfl
theorem w201 : drawF dr201 Tryz.f201 = true := by kernel_rfl
theorem g201 : Good Tryz.prog 201 i201 := good_of Tryz.func201 Tryz.call201 c201 w201
theorem c203 : cFn (tyOf Tryz.prog) dr203 Tryz.f203 = some i203 := by kernel_rfl
theorem w203 : drawF dr203 Tryz.f203 = true := by kernel_rfl
theorem g203 : Good Tryz.prog 203 i203 := good_of Tryz.func203 Tryz.call203 c203 w203
theorem c204 : cFn (tyOf Tryz.prog) dr204 Tryz.f204 = some i204 := by kernel_rfl
theorem w204 : drawF dr204 Tryz.f204 = true := by kernel_rfl
theorem g204 : Good Tryz.prog 204 i204 := good_of Tryz.func204 Tryz.call204 c204 w204
theorem c205 : cFn (tyOf Tryz.prog) dr205 Tryz.f205 = some i205 := by kernel_rfl
theorem w205 : drawF dr205 Tryz.f205 = true := by kernel_rfl
theorem g205 : Good Tryz.prog 205 i205 := good_of Tryz.func205 Tryz.call205 c205 w205
theorem c206 : cFn (tyOf Tryz.prog) dr206 Tryz.f206 = some i206 := by kernel_rfl
theorem w206 : drawF dr206 Tryz.f206 = true := by kernel_rfl
theorem g206 : Good Tryz.prog 206 i206 := good_of Tryz.func206 Tryz.call206 c206 w206
theorem c207 : cFn (tyOf Tryz.prog) dr207 Tryz.f207 = some i207 := by kernel_rfl
theorem w207 : drawF dr207 Tryz.f207 = true := by kernel_rfl
theorem g207 : Good Tryz.prog 207 i207 := good_of Tryz.func207 Tryz.call207 c207 w207
theorem c208 : cFn (tyOf Tryz.prog) dr208 Tryz.f208 = some i208 := by kernel_rfl
theorem w208 : drawF dr208 Tryz.f208 = true := by kernel_rfl
theorem g208 : Good Tryz.prog 208 i208 := good_of Tryz.func208 Tryz.call208 c208 w208
theorem c209 : cFn (tyOf Tryz.prog) dr209 Tryz.f209 = some i209 := by kernel_rfl
theorem w209 : drawF dr209 Tryz.f209 = true := by kernel_rfl
theorem g209 : Good Tryz.prog 209 i209 := good_of Tryz.func209 Tryz.call209 c209 w209
theorem c216 : cFn (tyOf Tryz.prog) dr216 Tryz.f216 = some i216 := by kernel_rfl
theorem w216 : drawF dr216 Tryz.f216 = true := by kernel_rfl
theorem g216 : Good Tryz.prog 216 i216 := good_of Tryz.func216 Tryz.call216 c216 w216
theorem c217 : cFn (tyOf Tryz.prog) dr217 Tryz.f217 = some i217 := by kernel_rfl
theorem w217 : drawF dr217 Tryz.f217 = true := by kernel_rfl
theorem g217 : Good Tryz.prog 217 i217 := good_of Tryz.func217 Tryz.call217 c217 w217
theorem c228 : cFn (tyOf Tryz.prog) dr228 Tryz.f228 = some i228 := by kernel_rfl
theorem w228 : drawF dr228 Tryz.f228 = true := by kernel_rfl
theorem g228 : Good Tryz.prog 228 i228 := good_of Tryz.func228 Tryz.call228 c228 w228
theorem c230 : cFn (tyOf Tryz.prog) dr230 Tryz.f230 = some i230 := by kernel_rfl
theorem w230 : drawF dr230 Tryz.f230 = true := by kernel_rfl
theorem g230 : Good Tryz.prog 230 i230 := good_of Tryz.func230 Tryz.call230 c230 w230
theorem c231 : cFn (tyOf Tryz.prog) dr231 Tryz.f231 = some i231 := by kernel_rfl
theorem w231 : drawF dr231 Tryz.f231 = true := by kernel_rfl
theorem g231 : Good Tryz.prog 231 i231 := good_of Tryz.func231 Tryz.call231 c231 w231
theorem c232 : cFn (tyOf Tryz.prog) dr232 Tryz.f232 = some i232 := by kernel_rfl
theorem w232 : drawF dr232 Tryz.f232 = true := by kernel_rfl
theorem g232 : Good Tryz.prog 232 i232 := good_of Tryz.func232 Tryz.call232 c232 w232
theorem c233 : cFn (tyOf Tryz.prog) dr233 Tryz.f233 = some i233 := by kernel_rfl
theorem w233 : drawF dr233 Tryz.f233 = true := by kernel_rfl
theorem g233 : Good Tryz.prog 233 i233 := good_of Tryz.func233 Tryz.call233 c233 w233
theorem c234 : cFn (tyOf Tryz.prog) dr234 Tryz.f234 = some i234 := by kernel_rfl
theorem w234 : drawF dr234 Tryz.f234 = true := by kernel_rfl
theorem g234 : Good Tryz.prog 234 i234 := good_of Tryz.func234 Tryz.call234 c234 w234
theorem c235 : cFn (tyOf Tryz.prog) dr235 Tryz.f235 = some i235 := by kernel_rfl
theorem w235 : drawF dr235 Tryz.f235 = true := by kernel_rfl
theorem g235 : Good Tryz.prog 235 i235 := good_of Tryz.func235 Tryz.call235 c235 w235
theorem c236 : cFn (tyOf Tryz.prog) dr236 Tryz.f236 = some i236 := by kernel_rfl
theorem w236 : drawF dr236 Tryz.f236 = true := by kernel_rfl
theorem g236 : Good Tryz.prog 236 i236 := good_of Tryz.func236 Tryz.call236 c236 w236
theorem c237 : cFn (tyOf Tryz.prog) dr237 Tryz.f237 = some i237 := by kernel_rfl
theorem w237 : drawF dr237 Tryz.f237 = true := by kernel_rfl
theorem g237 : Good Tryz.prog 237 i237 := good_of Tryz.func237 Tryz.call237 c237 w237
theorem c239 : cFn (tyOf Tryz.prog) dr239 Tryz.f239 = some i239 := by kernel_rfl
theorem w239 : drawF dr239 Tryz.f239 = true := by kernel_rfl
theorem g239 : Good Tryz.prog 239 i239 := good_of Tryz.func239 Tryz.call239 c239 w239
theorem c240 : cFn (tyOf Tryz.prog) dr240 Tryz.f240 = some i240 := by kernel_rfl
theorem w240 : drawF dr240 Tryz.f240 = true := by kernel_rfl
theorem g240 : Good Tryz.prog 240 i240 := good_of Tryz.func240 Tryz.call240 c240 w240
theorem c245 : cFn (tyOf Tryz.prog) dr245 Tryz.f245 = some i245 := by kernel_rfl
theorem w245 : drawF dr245 Tryz.f245 = true := by kernel_rfl
theorem g245 : Good Tryz.prog 245 i245 := good_of Tryz.func245 Tryz.call245 c245 w245
theorem c246 : cFn (tyOf Tryz.prog) dr246 Tryz.f246 = some i246 := by kernel_rfl
theorem w246 : drawF dr246 Tryz.f246 = true := by kernel_rfl
theorem g246 : Good Tryz.prog 246 i246 := good_of Tryz.func246 Tryz.call246 c246 w246
theorem c247 : cFn (tyOf Tryz.prog) dr247 Tryz.f247 = some i247 := by kernel_rfl
theorem w247 : drawF dr247 Tryz.f247 = true := by kernel_rfl
theorem g247 : Good Tryz.prog 247 i247 := good_of Tryz.func247 Tryz.call247 c247 w247
theorem c248 : cFn (tyOf Tryz.prog) dr248 Tryz.f248 = some i248 := by kernel_rfl
theorem w248 : drawF dr248 Tryz.f248 = true := by kernel_rfl
theorem g248 : Good Tryz.prog 248 i248 := good_of Tryz.func248 Tryz.call248 c248 w248
theorem mixedX : Tryz.prog.follows .mixedOrders = true := by kernel_rfl
end Go.Ev.X
end
