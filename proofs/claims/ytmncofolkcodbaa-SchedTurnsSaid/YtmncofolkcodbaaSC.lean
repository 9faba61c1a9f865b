/-
  What the tables say of the functions.
-/
import Derived.Test.YtmncofolkcodbaaChecked
import Derived.Test.YtmncofolkcodbaaSB
set_option linter.unusedSimpArgs false
set_option linter.unusedVariables false
set_option maxRecDepth 100000
noncomputable section
namespace Go.Ev.X
open Go Go.Ev Go.Proofs
theorem c3 : cFn (tyOf Try.prog) dr3 Try.f3 = some i3 := by kernel_rfl
theorem w3 : drawF dr3 Try.f3 = true := by kernel_rfl
theorem g3 : Good Try.prog 3 i3 := good_of Try.func3 Try.call3 c3 w3
theorem c4 : cFn (tyOf Try.prog) dr4 Try.f4 = some i4 := by kernel_rfl
theorem w4 : drawF dr4 Try.f4 = true := by kernel_rfl
theorem g4 : Good Try.prog 4 i4 := good_of Try.func4 Try.call4 c4 w4
theorem c5 : cFn (tyOf Try.prog) dr5 Try.f5 = some i5 := by kernel_rfl
theorem w5 : drawF dr5 Try.f5 = true := by kernel_rfl
theorem g5 : Good Try.prog 5 i5 := good_of Try.func5 Try.call5 c5 w5
theorem c6 : cFn (tyOf Try.prog) dr6 Try.f6 = some i6 := by kernel_rfl
theorem w6 : drawF dr6 Try.f6 = true := by kernel_rfl
theorem g6 : Good Try.prog 6 i6 := good_of Try.func6 Try.call6 c6 w6
theorem c7 : cFn (tyOf Try.prog) dr7 Try.f7 = some i7 := by kernel_rfl
theorem w7 : drawF dr7 Try.f7 = true := by kernel_rfl
theorem g7 : Good Try.prog 7 i7 := good_of Try.func7 Try.call7 c7 w7
theorem c8 : cFn (tyOf Try.prog) dr8 Try.f8 = some i8 := by kernel_rfl
theorem w8 : drawF dr8 Try.f8 = true := by kernel_rfl
theorem g8 : Good Try.prog 8 i8 := good_of Try.func8 Try.call8 c8 w8
theorem c9 : cFn (tyOf Try.prog) dr9 Try.f9 = some i9 := by kernel_rfl
theorem w9 : drawF dr9 Try.f9 = true := by kernel_rfl
theorem g9 : Good Try.prog 9 i9 := good_of Try.func9 Try.call9 c9 w9
theorem c10 : cFn (tyOf Try.prog) dr10 Try.f10 = some i10 := by kernel_rfl
theorem w10 : drawF dr10 Try.f10 = true := by kernel_rfl
theorem g10 : Good Try.prog 10 i10 := good_of Try.func10 Try.call10 c10 w10
theorem c11 : cFn (tyOf Try.prog) dr11 Try.f11 = some i11 := by kernel_rfl
theorem w11 : drawF dr11 Try.f11 = true := by kernel_rfl
theorem g11 : Good Try.prog 11 i11 := good_of Try.func11 Try.call11 c11 w11
theorem c12 : cFn (tyOf Try.prog) dr12 Try.f12 = some i12 := by kernel_rfl
theorem w12 : drawF dr12 Try.f12 = true := by kernel_rfl
theorem g12 : Good Try.prog 12 i12 := good_of Try.func12 Try.call12 c12 w12
theorem c13 : cFn (tyOf Try.prog) dr13 Try.f13 = some i13 := by kernel_rfl
theorem w13 : drawF dr13 Try.f13 = true := by kernel_rfl
theorem g13 : Good Try.prog 13 i13 := good_of Try.func13 Try.call13 c13 w13
theorem c14 : cFn (tyOf Try.prog) dr14 Try.f14 = some i14 := by kernel_rfl
theorem w14 : drawF dr14 Try.f14 = true := by kernel_rfl
theorem g14 : Good Try.prog 14 i14 := good_of Try.func14 Try.call14 c14 w14
theorem c15 : cFn (tyOf Try.prog) dr15 Try.f15 = some i15 := by kernel_rfl
theorem w15 : drawF dr15 Try.f15 = true := by kernel_rfl
theorem g15 : Good Try.prog 15 i15 := good_of Try.func15 Try.call15 c15 w15
theorem c16 : cFn (tyOf Try.prog) dr16 Try.f16 = some i16 := by kernel_rfl
theorem w16 : drawF dr16 Try.f16 = true := by kernel_rfl
theorem g16 : Good Try.prog 16 i16 := good_of Try.func16 Try.call16 c16 w16
theorem c17 : cFn (tyOf Try.prog) dr17 Try.f17 = some i17 := by kernel_rfl
theorem w17 : drawF dr17 Try.f17 = true := by kernel_rfl
theorem g17 : Good Try.prog 17 i17 := good_of Try.func17 Try.call17 c17 w17
theorem c18 : cFn (tyOf Try.prog) dr18 Try.f18 = some i18 := by kernel_rfl
theorem w18 : drawF dr18 Try.f18 = true := by kernel_rfl
theorem g18 : Good Try.prog 18 i18 := good_of Try.func18 Try.call18 c18 w18
theorem c19 : cFn (tyOf Try.prog) dr19 Try.f19 = some i19 := by kernel_rfl
theorem w19 : drawF dr19 Try.f19 = true := by kernel_rfl
theorem g19 : Good Try.prog 19 i19 := good_of Try.func19 Try.call19 c19 w19
theorem c20 : cFn (tyOf Try.prog) dr20 Try.f20 = some i20 := by kernel_rfl
theorem w20 : drawF dr20 Try.f20 = true := by kernel_rfl
theorem g20 : Good Try.prog 20 i20 := good_of Try.func20 Try.call20 c20 w20
theorem c21 : cFn (tyOf Try.prog) dr21 Try.f21 = some i21 := by kernel_rfl
theorem w21 : drawF dr21 Try.f21 = true := by kernel_rfl
theorem g21 : Good Try.prog 21 i21 := good_of Try.func21 Try.call21 c21 w21
theorem c22 : cFn (tyOf Try.prog) dr22 Try.f22 = some i22 := by kernel_rfl
theorem w22 : drawF dr22 Try.f22 = true := by kernel_rfl
theorem g22 : Good Try.prog 22 i22 := good_of Try.func22 Try.call22 c22 w22
theorem c23 : cFn (tyOf Try.prog) dr23 Try.f23 = some i23 := by kernel_rfl
theorem w23 : drawF dr23 Try.f23 = true := by kernel_rfl
theorem g23 : Good Try.prog 23 i23 := good_of Try.func23 Try.call23 c23 w23
theorem c24 : cFn (tyOf Try.prog) dr24 Try.f24 = some i24 := by kernel_rfl
theorem w24 : drawF dr24 Try.f24 = true := by kernel_rfl
theorem g24 : Good Try.prog 24 i24 := good_of Try.func24 Try.call24 c24 w24
theorem c25 : cFn (tyOf Try.prog) dr25 Try.f25 = some i25 := by kernel_rfl
theorem w25 : drawF dr25 Try.f25 = true := by kernel_rfl
theorem g25 : Good Try.prog 25 i25 := good_of Try.func25 Try.call25 c25 w25
theorem c26 : cFn (tyOf Try.prog) dr26 Try.f26 = some i26 := by kernel_rfl
theorem w26 : drawF dr26 Try.f26 = true := by kernel_rfl
theorem g26 : Good Try.prog 26 i26 := good_of Try.func26 Try.call26 c26 w26
theorem c27 : cFn (tyOf Try.prog) dr27 Try.f27 = some i27 := by kernel_rfl
theorem w27 : drawF dr27 Try.f27 = true := by kernel_rfl
theorem g27 : Good Try.prog 27 i27 := good_of Try.func27 Try.call27 c27 w27
theorem c28 : cFn (tyOf Try.prog) dr28 Try.f28 = some i28 := by kernel_rfl
theorem w28 : drawF dr28 Try.f28 = true := by kernel_rfl
theorem g28 : Good Try.prog 28 i28 := good_of Try.func28 Try.call28 c28 w28
theorem c29 : cFn (tyOf Try.prog) dr29 Try.f29 = some i29 := by kernel_rfl
theorem w29 : drawF dr29 Try.f29 = true := by kernel_rfl
theorem g29 : Good Try.prog 29 i29 := good_of Try.func29 Try.call29 c29 w29
theorem c30 : cFn (tyOf Try.prog) dr30 Try.f30 = some i30 := by kernel_rfl
theorem w30 : drawF dr30 Try.f30 = true := by kernel_rfl
theorem g30 : Good Try.prog 30 i30 := good_of Try.func30 Try.call30 c30 w30
theorem c31 : cFn (tyOf Try.prog) dr31 Try.f31 = some i31 := by kernel_rfl
theorem w31 : drawF dr31 Try.f31 = true := by kernel_rfl
theorem g31 : Good Try.prog 31 i31 := good_of Try.func31 Try.call31 c31 w31
theorem c32 : cFn (tyOf Try.prog) dr32 Try.f32 = some i32 := by kernel_rfl
theorem w32 : drawF dr32 Try.f32 = true := by kernel_rfl
theorem g32 : Good Try.prog 32 i32 := good_of Try.func32 Try.call32 c32 w32
theorem c33 : cFn (tyOf Try.prog) dr33 Try.f33 = some i33 := by kernel_rfl
theorem w33 : drawF dr33 Try.f33 = true := by kernel_rfl
theorem g33 : Good Try.prog 33 i33 := good_of Try.func33 Try.call33 c33 w33
theorem c34 : cFn (tyOf Try.prog) dr34 Try.f34 = some i34 := by kernel_rfl
theorem w34 : drawF dr34 Try.f34 = true := by kernel_rfl
theorem g34 : Good Try.prog 34 i34 := good_of Try.func34 Try.call34 c34 w34
theorem c35 : cFn (tyOf Try.prog) dr35 Try.f35 = some i35 := by kernel_rfl
theorem w35 : drawF dr35 Try.f35 = true := by kernel_rfl
theorem g35 : Good Try.prog 35 i35 := good_of Try.func35 Try.call35 c35 w35
theorem c36 : cFn (tyOf Try.prog) dr36 Try.f36 = some i36 := by kernel_rfl
theorem w36 : drawF dr36 Try.f36 = true := by kernel_rfl
theorem g36 : Good Try.prog 36 i36 := good_of Try.func36 Try.call36 c36 w36
theorem c37 : cFn (tyOf Try.prog) dr37 Try.f37 = some i37 := by kernel_rfl
theorem w37 : drawF dr37 Try.f37 = true := by kernel_rfl
theorem g37 : Good Try.prog 37 i37 := good_of Try.func37 Try.call37 c37 w37
theorem c38 : cFn (tyOf Try.prog) dr38 Try.f38 = some i38 := by kernel_rfl
theorem w38 : drawF dr38 Try.f38 = true := by kernel_rfl
theorem g38 : Good Try.prog 38 i38 := good_of Try.func38 Try.call38 c38 w38
theorem c39 : cFn (tyOf Try.prog) dr39 Try.f39 = some i39 := by kernel_rfl
theorem w39 : drawF dr39 Try.f39 = true := by kernel_rfl
theorem g39 : Good Try.prog 39 i39 := good_of Try.func39 Try.call39 c39 w39
theorem c40 : cFn (tyOf Try.prog) dr40 Try.f40 = some i40 := by kernel_rfl
theorem w40 : drawF dr40 Try.f40 = true := by kernel_rfl
theorem g40 : Good Try.prog 40 i40 := good_of Try.func40 Try.call40 c40 w40
theorem c41 : cFn (tyOf Try.prog) dr41 Try.f41 = some i41 := by kernel_rfl
theorem w41 : drawF dr41 Try.f41 = true := by kernel_rfl
theorem g41 : Good Try.prog 41 i41 := good_of Try.func41 Try.call41 c41 w41
theorem c42 : cFn (tyOf Try.prog) dr42 Try.f42 = some i42 := by kernel_rfl
theorem w42 : drawF dr42 Try.f42 = true := by kernel_rfl
theorem g42 : Good Try.prog 42 i42 := good_of Try.func42 Try.call42 c42 w42
theorem c44 : cFn (tyOf Try.prog) dr44 Try.f44 = some i44 := by kernel_rfl
theorem w44 : drawF dr44 Try.f44 = true := by kernel_rfl
theorem g44 : Good Try.prog 44 i44 := good_of Try.func44 Try.call44 c44 w44
theorem c45 : cFn (tyOf Try.prog) dr45 Try.f45 = some i45 := by kernel_rfl
theorem w45 : drawF dr45 Try.f45 = true := by kernel_rfl
theorem g45 : Good Try.prog 45 i45 := good_of Try.func45 Try.call45 c45 w45
theorem c46 : cFn (tyOf Try.prog) dr46 Try.f46 = some i46 := by kernel_rfl
theorem w46 : drawF dr46 Try.f46 = true := by kernel_rfl
theorem g46 : Good Try.prog 46 i46 := good_of Try.func46 Try.call46 c46 w46
theorem c47 : cFn (tyOf Try.prog) dr47 Try.f47 = some i47 := by kernel_rfl
theorem w47 : drawF dr47 Try.f47 = true := by kernel_rfl
theorem g47 : Good Try.prog 47 i47 := good_of Try.func47 Try.call47 c47 w47
theorem c48 : cFn (tyOf Try.prog) dr48 Try.f48 = some i48 := by kernel_rfl
theorem w48 : drawF dr48 Try.f48 = true := by kernel_rfl
theorem g48 : Good Try.prog 48 i48 := good_of Try.func48 Try.call48 c48 w48
theorem c49 : cFn (tyOf Try.prog) dr49 Try.f49 = some i49 := by kernel_rfl
theorem w49 : drawF dr49 Try.f49 = true := by kernel_rfl
theorem g49 : Good Try.prog 49 i49 := good_of Try.func49 Try.call49 c49 w49
theorem c50 : cFn (tyOf Try.prog) dr50 Try.f50 = some i50 := by kernel_rfl
theorem w50 : drawF dr50 Try.f50 = true := by kernel_rfl
theorem g50 : Good Try.prog 50 i50 := good_of Try.func50 Try.call50 c50 w50
theorem c51 : cFn (tyOf Try.prog) dr51 Try.f51 = some i51 := by kernel_rfl
theorem w51 : drawF dr51 Try.f51 = true := by kernel_rfl
theorem g51 : Good Try.prog 51 i51 := good_of Try.func51 Try.call51 c51 w51
theorem c52 : cFn (tyOf Try.prog) dr52 Try.f52 = some i52 := by kernel_rfl
theorem w52 : drawF dr52 Try.f52 = true := by kernel_rfl
theorem g52 : Good Try.prog 52 i52 := good_of Try.func52 Try.call52 c52 w52
theorem c54 : cFn (tyOf Try.prog) dr54 Try.f54 = some i54 := by kernel_rfl
theorem w54 : drawF dr54 Try.f54 = true := by kernel_rfl
theorem g54 : Good Try.prog 54 i54 := good_of Try.func54 Try.call54 c54 w54
theorem c55 : cFn (tyOf Try.prog) dr55 Try.f55 = some i55 := by kernel_rfl
theorem w55 : drawF dr55 Try.f55 = true := by kernel_rfl
theorem g55 : Good Try.prog 55 i55 := good_of Try.func55 Try.call55 c55 w55
theorem c56 : cFn (tyOf Try.prog) dr56 Try.f56 = some i56 := by kernel_rfl
theorem w56 : drawF dr56 Try.f56 = true := by kernel_rfl
theorem g56 : Good Try.prog 56 i56 := good_of Try.func56 Try.call56 c56 w56
theorem c57 : cFn (tyOf Try.prog) dr57 Try.f57 = some i57 := by kernel_rfl
theorem w57 : drawF dr57 Try.f57 = true := by kernel_rfl
theorem g57 : Good Try.prog 57 i57 := good_of Try.func57 Try.call57 c57 w57
theorem c58 : cFn (tyOf Try.prog) dr58 Try.f58 = some i58 := by kernel_rfl
theorem w58 : drawF dr58 Try.f58 = true := by kernel_rfl
theorem g58 : Good Try.prog 58 i58 := good_of Try.func58 Try.call58 c58 w58
theorem c59 : cFn (tyOf Try.prog) dr59 Try.f59 = some i59 := by kernel_rfl
theorem w59 : drawF dr59 Try.f59 = true := by kernel_rfl
theorem g59 : Good Try.prog 59 i59 := good_of Try.func59 Try.call59 c59 w59
theorem c60 : cFn (tyOf Try.prog) dr60 Try.f60 = some i60 := by kernel_rfl
theorem w60 : drawF dr60 Try.f60 = true := by kernel_rfl
theorem g60 : Good Try.prog 60 i60 := good_of Try.func60 Try.call60 c60 w60
theorem c61 : cFn (tyOf Try.prog) dr61 Try.f61 = some i61 := by kernel_rfl
theorem w61 : drawF dr61 Try.f61 = true := by kernel_rfl
theorem g61 : Good Try.prog 61 i61 := good_of Try.func61 Try.call61 c61 w61
theorem c62 : cFn (tyOf Try.prog) dr62 Try.f62 = some i62 := by kernel_rfl
theorem w62 : drawF dr62 Try.f62 = true := by kernel_rfl
theorem g62 : Good Try.prog 62 i62 := good_of Try.func62 Try.call62 c62 w62
theorem c63 : cFn (tyOf Try.prog) dr63 Try.f63 = some i63 := by kernel_rfl
theorem w63 : drawF dr63 Try.f63 = true := by kernel_rfl
theorem g63 : Good Try.prog 63 i63 := good_of Try.func63 Try.call63 c63 w63
theorem c65 : cFn (tyOf Try.prog) dr65 Try.f65 = some i65 := by kernel_rfl
theorem w65 : drawF dr65 Try.f65 = true := by kernel_rfl
theorem g65 : Good Try.prog 65 i65 := good_of Try.func65 Try.call65 c65 w65
theorem c66 : cFn (tyOf Try.prog) dr66 Try.f66 = some i66 := by kernel_rfl
theorem w66 : drawF dr66 Try.f66 = true := by kernel_rfl
theorem g66 : Good Try.prog 66 i66 := good_of Try.func66 Try.call66 c66 w66
theorem c67 : cFn (tyOf Try.prog) dr67 Try.f67 = some i67 := by kernel_rfl
theorem w67 : drawF dr67 Try.f67 = true := by kernel_rfl
theorem g67 : Good Try.prog 67 i67 := good_of Try.func67 Try.call67 c67 w67
theorem c68 : cFn (tyOf Try.prog) dr68 Try.f68 = some i68 := by kernel_rfl
theorem w68 : drawF dr68 Try.f68 = true := by kernel_rfl
theorem g68 : Good Try.prog 68 i68 := good_of Try.func68 Try.call68 c68 w68
theorem c69 : cFn (tyOf Try.prog) dr69 Try.f69 = some i69 := by kernel_rfl
theorem w69 : drawF dr69 Try.f69 = true := by kernel_rfl
theorem g69 : Good Try.prog 69 i69 := good_of Try.func69 Try.call69 c69 w69
theorem c70 : cFn (tyOf Try.prog) dr70 Try.f70 = some i70 := by kernel_rfl
theorem w70 : drawF dr70 Try.f70 = true := by kernel_rfl
theorem g70 : Good Try.prog 70 i70 := good_of Try.func70 Try.call70 c70 w70
theorem c71 : cFn (tyOf Try.prog) dr71 Try.f71 = some i71 := by kernel_rfl
theorem w71 : drawF dr71 Try.f71 = true := by kernel_rfl
theorem g71 : Good Try.prog 71 i71 := good_of Try.func71 Try.call71 c71 w71
theorem c72 : cFn (tyOf Try.prog) dr72 Try.f72 = some i72 := by kernel_rfl
theorem w72 : drawF dr72 Try.f72 = true := by kernel_rfl
theorem g72 : Good Try.prog 72 i72 := good_of Try.func72 Try.call72 c72 w72
theorem c73 : cFn (tyOf Try.prog) dr73 Try.f73 = some i73 := by kernel_rfl
theorem w73 : drawF dr73 Try.f73 = true := by kernel_rfl
theorem g73 : Good Try.prog 73 i73 := good_of Try.func73 Try.call73 c73 w73
theorem c74 : cFn (tyOf Try.prog) dr74 Try.f74 = some i74 := by kernel_rfl
theorem w74 : drawF dr74 Try.f74 = true := by kernel_rfl
theorem g74 : Good Try.prog 74 i74 := good_of Try.func74 Try.call74 c74 w74
theorem c75 : cFn (tyOf Try.prog) dr75 Try.f75 = some i75 := by kernel_rfl
theorem w75 : drawF dr75 Try.f75 = true := by kernel_rfl
theorem g75 : Good Try.prog 75 i75 := good_of Try.func75 Try.call75 c75 w75
theorem c76 : cFn (tyOf Try.prog) dr76 Try.f76 = some i76 := by kernel_rfl
theorem w76 : drawF dr76 Try.f76 = true := by kernel_rfl
theorem g76 : Good Try.prog 76 i76 := good_of Try.func76 Try.call76 c76 w76
theorem c77 : cFn (tyOf Try.prog) dr77 Try.f77 = some i77 := by kernel_rfl
theorem w77 : drawF dr77 Try.f77 = true := by kernel_rfl
theorem g77 : Good Try.prog 77 i77 := good_of Try.func77 Try.call77 c77 w77
theorem c78 : cFn (tyOf Try.prog) dr78 Try.f78 = some i78 := by kernel_rfl
theorem w78 : drawF dr78 Try.f78 = true := by kernel_rfl
theorem g78 : Good Try.prog 78 i78 := good_of Try.func78 Try.call78 c78 w78
theorem c79 : cFn (tyOf Try.prog) dr79 Try.f79 = some i79 := by kernel_rfl
theorem w79 : drawF dr79 Try.f79 = true := by kernel_rfl
theorem g79 : Good Try.prog 79 i79 := good_of Try.func79 Try.call79 c79 w79
theorem c80 : cFn (tyOf Try.prog) dr80 Try.f80 = some i80 := by kernel_rfl
theorem w80 : drawF dr80 Try.f80 = true := by kernel_rfl
theorem g80 : Good Try.prog 80 i80 := good_of Try.func80 Try.call80 c80 w80
theorem c81 : cFn (tyOf Try.prog) dr81 Try.f81 = some i81 := by kernel_rfl
theorem w81 : drawF dr81 Try.f81 = true := by kernel_rfl
theorem g81 : Good Try.prog 81 i81 := good_of Try.func81 Try.call81 c81 w81
theorem c82 : cFn (tyOf Try.prog) dr82 Try.f82 = some i82 := by kernel_rfl
theorem w82 : drawF dr82 Try.f82 = true := by kernel_rfl
theorem g82 : Good Try.prog 82 i82 := good_of Try.func82 Try.call82 c82 w82
theorem c83 : cFn (tyOf Try.prog) dr83 Try.f83 = some i83 := by kernel_rfl
theorem w83 : drawF dr83 Try.f83 = true := by kernel_rfl
theorem g83 : Good Try.prog 83 i83 := good_of Try.func83 Try.call83 c83 w83
theorem c84 : cFn (tyOf Try.prog) dr84 Try.f84 = some i84 := by kernel_rfl
theorem w84 : drawF dr84 Try.f84 = true := by kernel_rfl
theorem g84 : Good Try.prog 84 i84 := good_of Try.func84 Try.call84 c84 w84
theorem c85 : cFn (tyOf Try.prog) dr85 Try.f85 = some i85 := by kernel_rfl
theorem w85 : drawF dr85 Try.f85 = true := by kernel_rfl
theorem g85 : Good Try.prog 85 i85 := good_of Try.func85 Try.call85 c85 w85
theorem c86 : cFn (tyOf Try.prog) dr86 Try.f86 = some i86 := by kernel_rfl
theorem w86 : drawF dr86 Try.f86 = true := by kernel_rfl
theorem g86 : Good Try.prog 86 i86 := good_of Try.func86 Try.call86 c86 w86
theorem c87 : cFn (tyOf Try.prog) dr87 Try.f87 = some i87 := by kernel_rfl
theorem w87 : drawF dr87 Try.f87 = true := by kernel_rfl
theorem g87 : Good Try.prog 87 i87 := good_of Try.func87 Try.call87 c87 w87
theorem c88 : cFn (tyOf Try.prog) dr88 Try.f88 = some i88 := by kernel_rfl
theorem w88 : drawF dr88 Try.f88 = true := by kernel_rfl
theorem g88 : Good Try.prog 88 i88 := good_of Try.func88 Try.call88 c88 w88
theorem c89 : cFn (tyOf Try.prog) dr89 Try.f89 = some i89 := by kernel_rfl
theorem w89 : drawF dr89 Try.f89 = true := by kernel_rfl
theorem g89 : Good Try.prog 89 i89 := good_of Try.func89 Try.call89 c89 w89
theorem c90 : cFn (tyOf Try.prog) dr90 Try.f90 = some i90 := by kernel_rfl
theorem w90 : drawF dr90 Try.f90 = true := by kernel_rfl
theorem g90 : Good Try.prog 90 i90 := good_of Try.func90 Try.call90 c90 w90
theorem c91 : cFn (tyOf Try.prog) dr91 Try.f91 = some i91 := by kernel_rfl
theorem w91 : drawF dr91 Try.f91 = true := by kernel_rfl
theorem g91 : Good Try.prog 91 i91 := good_of Try.func91 Try.call91 c91 w91
theorem c92 : cFn (tyOf Try.prog) dr92 Try.f92 = some i92 := by kernel_rfl
theorem w92 : drawF dr92 Try.f92 = true := by kernel_rfl
theorem g92 : Good Try.prog 92 i92 := good_of Try.func92 Try.call92 c92 w92
theorem c93 : cFn (tyOf Try.prog) dr93 Try.f93 = some i93 := by kernel_rfl
theorem w93 : drawF dr93 Try.f93 = true := by kernel_rfl
theorem g93 : Good Try.prog 93 i93 := good_of Try.func93 Try.call93 c93 w93
theorem c94 : cFn (tyOf Try.prog) dr94 Try.f94 = some i94 := by kernel_rfl
theorem w94 : drawF dr94 Try.f94 = true := by kernel_rfl
theorem g94 : Good Try.prog 94 i94 := good_of Try.func94 Try.call94 c94 w94
theorem c95 : cFn (tyOf Try.prog) dr95 Try.f95 = some i95 := by kernel_rfl
theorem w95 : drawF dr95 Try.f95 = true := by kernel_rfl
theorem g95 : Good Try.prog 95 i95 := good_of Try.func95 Try.call95 c95 w95
theorem c96 : cFn (tyOf Try.prog) dr96 Try.f96 = some i96 := by kernel_rfl
theorem w96 : drawF dr96 Try.f96 = true := by kernel_rfl
theorem g96 : Good Try.prog 96 i96 := good_of Try.func96 Try.call96 c96 w96
theorem c97 : cFn (tyOf Try.prog) dr97 Try.f97 = some i97 := by kernel_rfl
theorem w97 : drawF dr97 Try.f97 = true := by kernel_rfl
theorem g97 : Good Try.prog 97 i97 := good_of Try.func97 Try.call97 c97 w97
theorem c98 : cFn (tyOf Try.prog) dr98 Try.f98 = some i98 := by kernel_rfl
theorem w98 : drawF dr98 Try.f98 = true := by kernel_rfl
theorem g98 : Good Try.prog 98 i98 := good_of Try.func98 Try.call98 c98 w98
theorem c99 : cFn (tyOf Try.prog) dr99 Try.f99 = some i99 := by kernel_rfl
theorem w99 : drawF dr99 Try.f99 = true := by kernel_rfl
theorem g99 : Good Try.prog 99 i99 := good_of Try.func99 Try.call99 c99 w99
theorem c100 : cFn (tyOf Try.prog) dr100 Try.f100 = some i100 := by kernel_rfl
theorem w100 : drawF dr100 Try.f100 = true := by kernel_rfl
theorem g100 : Good Try.prog 100 i100 := good_of Try.func100 Try.call100 c100 w100
theorem mixedX : Try.prog.follows .mixedOrders = true := by kernel_rfl
end Go.Ev.X
end
