/-
 What the tables say of the functions.
-/
import Derived.Test.YtkecfebodpkamaaGreatChecked
import Derived.Test.YtkecfebodpkamaaGreatSB
set_option linter.unusedSimpArgs false
set_option linter.unusedVariables false
set_option maxRecDepth 100000
noncomputable section
namespace Go.Ev.X
open Go Go.Ev Go.Proofs
theorem c5 : cFn (tyOf Tryz.prog) dr5 Tryz.f5 = some i5 := by kernel_rfl
theorem w5 : drawF dr5 Tryz.f5 = true := by kernel_rfl
theorem g5 : Good Tryz.prog 5 i5 := good_of Tryz.func5 Tryz.call5 c5 w5
theorem c8 : cFn (tyOf Tryz.prog) dr8 Tryz.f8 = some i8 := by kernel_rfl
theorem w8 : drawF dr8 Tryz.f8 = true := by kernel_rfl
theorem g8 : Good Tryz.prog 8 i8 := good_of Tryz.func8 Tryz.call8 c8 w8
theorem c9 : cFn (tyOf Tryz.prog) dr9 Tryz.f9 = some i9 := by kernel_rfl
theorem w9 : drawF dr9 Tryz.f9 = true := by kernel_rfl
theorem g9 : Good Tryz.prog 9 i9 := good_of Tryz.func9 Tryz.call9 c9 w9
theorem c10 : cFn (tyOf Tryz.prog) dr10 Tryz.f10 = some i10 := by kernel_rfl
theorem w10 : drawF dr10 Tryz.f10 = true := by kernel_rfl
theorem g10 : Good Tryz.prog 10 i10 := good_of Tryz.func10 Tryz.call10 c10 w10
theorem c11 : cFn (tyOf Tryz.prog) dr11 Tryz.f11 = some i11 := by kernel_rfl
theorem w11 : drawF dr11 Tryz.f11 = true := by kernel_rfl
theorem g11 : Good Tryz.prog 11 i11 := good_of Tryz.func11 Tryz.call11 c11 w11
theorem c12 : cFn (tyOf Tryz.prog) dr12 Tryz.f12 = some i12 := by kernel_rfl
theorem w12 : drawF dr12 Tryz.f12 = true := by kernel_rfl
theorem g12 : Good Tryz.prog 12 i12 := good_of Tryz.func12 Tryz.call12 c12 w12
theorem c13 : cFn (tyOf Tryz.prog) dr13 Tryz.f13 = some i13 := by kernel_rfl
theorem w13 : drawF dr13 Tryz.f13 = true := by kernel_rfl
theorem g13 : Good Tryz.prog 13 i13 := good_of Tryz.func13 Tryz.call13 c13 w13
theorem c14 : cFn (tyOf Tryz.prog) dr14 Tryz.f14 = some i14 := by kernel_rfl
theorem w14 : drawF dr14 Tryz.f14 = true := by kernel_rfl
theorem g14 : Good Tryz.prog 14 i14 := good_of Tryz.func14 Tryz.call14 c14 w14
theorem c15 : cFn (tyOf Tryz.prog) dr15 Tryz.f15 = some i15 := by kernel_rfl
theorem w15 : drawF dr15 Tryz.f15 = true := by kernel_rfl
theorem g15 : Good Tryz.prog 15 i15 := good_of Tryz.func15 Tryz.call15 c15 w15
theorem c16 : cFn (tyOf Tryz.prog) dr16 Tryz.f16 = some i16 := by kernel_rfl
theorem w16 : drawF dr16 Tryz.f16 = true := by kernel_rfl
theorem g16 : Good Tryz.prog 16 i16 := good_of Tryz.func16 Tryz.call16 c16 w16
theorem c17 : cFn (tyOf Tryz.prog) dr17 Tryz.f17 = some i17 := by kernel_rfl
theorem w17 : drawF dr17 Tryz.f17 = true := by kernel_rfl
theorem g17 : Good Tryz.prog 17 i17 := good_of Tryz.func17 Tryz.call17 c17 w17
theorem c18 : cFn (tyOf Tryz.prog) dr18 Tryz.f18 = some i18 := by kernel_rfl
theorem w18 : drawF dr18 Tryz.f18 = true := by kernel_rfl
theorem g18 : Good Tryz.prog 18 i18 := good_of Tryz.func18 Tryz.call18 c18 w18
theorem c19 : cFn (tyOf Tryz.prog) dr19 Tryz.f19 = some i19 := by kernel_rfl
theorem w19 : drawF dr19 Tryz.f19 = true := by kernel_rfl
theorem g19 : Good Tryz.prog 19 i19 := good_of Tryz.func19 Tryz.call19 c19 w19
theorem c20 : cFn (tyOf Tryz.prog) dr20 Tryz.f20 = some i20 := by kernel_rfl
theorem w20 : drawF dr20 Tryz.f20 = true := by kernel_rfl
theorem g20 : Good Tryz.prog 20 i20 := good_of Tryz.func20 Tryz.call20 c20 w20
theorem c22 : cFn (tyOf Tryz.prog) dr22 Tryz.f22 = some i22 := by kernel_rfl
theorem w22 : drawF dr22 Tryz.f22 = true := by kernel_rfl
theorem g22 : Good Tryz.prog 22 i22 := good_of Tryz.func22 Tryz.call22 c22 w22
theorem c23 : cFn (tyOf Tryz.prog) dr23 Tryz.f23 = some i23 := by kernel_rfl
theorem w23 : drawF dr23 Tryz.f23 = true := by kernel_rfl
theorem g23 : Good Tryz.prog 23 i23 := good_of Tryz.func23 Tryz.call23 c23 w23
theorem c24 : cFn (tyOf Tryz.prog) dr24 Tryz.f24 = some i24 := by kernel_rfl
theorem w24 : drawF dr24 Tryz.f24 = true := by kernel_rfl
theorem g24 : Good Tryz.prog 24 i24 := good_of Tryz.func24 Tryz.call24 c24 w24
theorem c25 : cFn (tyOf Tryz.prog) dr25 Tryz.f25 = some i25 := by kernel_rfl
theorem w25 : drawF dr25 Tryz.f25 = true := by kernel_rfl
theorem g25 : Good Tryz.prog 25 i25 := good_of Tryz.func25 Tryz.call25 c25 w25
theorem c26 : cFn (tyOf Tryz.prog) dr26 Tryz.f26 = some i26 := by kernel_rfl
theorem w26 : drawF dr26 Tryz.f26 = true := by kernel_rfl
theorem g26 : Good Tryz.prog 26 i26 := good_of Tryz.func26 Tryz.call26 c26 w26
theorem c27 : cFn (tyOf Tryz.prog) dr27 Tryz.f27 = some i27 := by kernel_rfl
theorem w27 : drawF dr27 Tryz.f27 = true := by kernel_rfl
theorem g27 : Good Tryz.prog 27 i27 := good_of Tryz.func27 Tryz.call27 c27 w27
theorem c28 : cFn (tyOf Tryz.prog) dr28 Tryz.f28 = some i28 := by kernel_rfl
theorem w28 : drawF dr28 Tryz.f28 = true := by kernel_rfl
theorem g28 : Good Tryz.prog 28 i28 := good_of Tryz.func28 Tryz.call28 c28 w28
theorem c29 : cFn (tyOf Tryz.prog) dr29 Tryz.f29 = some i29 := by kernel_rfl
theorem w29 : drawF dr29 Tryz.f29 = true := by kernel_rfl
theorem g29 : Good Tryz.prog 29 i29 := good_of Tryz.func29 Tryz.call29 c29 w29
theorem c30 : cFn (tyOf Tryz.prog) dr30 Tryz.f30 = some i30 := by kernel_rfl
theorem w30 : drawF dr30 Tryz.f30 = true := by kernel_rfl
theorem g30 : Good Tryz.prog 30 i30 := good_of Tryz.func30 Tryz.call30 c30 w30
theorem c31 : cFn (tyOf Tryz.prog) dr31 Tryz.f31 = some i31 := by kernel_rfl
theorem w31 : drawF dr31 Tryz.f31 = true := by kernel_rfl
theorem g31 : Good Tryz.prog 31 i31 := good_of Tryz.func31 Tryz.call31 c31 w31
theorem c32 : cFn (tyOf Tryz.prog) dr32 Tryz.f32 = some i32 := by kernel_rfl
theorem w32 : drawF dr32 Tryz.f32 = true := by kernel_rfl
theorem g32 : Good Tryz.prog 32 i32 := good_of Tryz.func32 Tryz.call32 c32 w32
theorem c33 : cFn (tyOf Tryz.prog) dr33 Tryz.f33 = some i33 := by kernel_rfl
theorem w33 : drawF dr33 Tryz.f33 = true := by kernel_rfl
theorem g33 : Good Tryz.prog 33 i33 := good_of Tryz.func33 Tryz.call33 c33 w33
theorem c34 : cFn (tyOf Tryz.prog) dr34 Tryz.f34 = some i34 := by kernel_rfl
theorem w34 : drawF dr34 Tryz.f34 = true := by kernel_rfl
theorem g34 : Good Tryz.prog 34 i34 := good_of Tryz.func34 Tryz.call34 c34 w34
theorem c35 : cFn (tyOf Tryz.prog) dr35 Tryz.f35 = some i35 := by kernel_rfl
theorem w35 : drawF dr35 Tryz.f35 = true := by kernel_rfl
theorem g35 : Good Tryz.prog 35 i35 := good_of Tryz.func35 Tryz.call35 c35 w35
theorem c36 : cFn (tyOf Tryz.prog) dr36 Tryz.f36 = some i36 := by kernel_rfl
theorem w36 : drawF dr36 Tryz.f36 = true := by kernel_rfl
theorem g36 : Good Tryz.prog 36 i36 := good_of Tryz.func36 Tryz.call36 c36 w36
theorem c37 : cFn (tyOf Tryz.prog) dr37 Tryz.f37 = some i37 := by kernel_rfl
theorem w37 : drawF dr37 Tryz.f37 = true := by kernel_rfl
theorem g37 : Good Tryz.prog 37 i37 := good_of Tryz.func37 Tryz.call37 c37 w37
theorem c38 : cFn (tyOf Tryz.prog) dr38 Tryz.f38 = some i38 := by kernel_rfl
theorem w38 : drawF dr38 Tryz.f38 = true := by kernel_rfl
theorem g38 : Good Tryz.prog 38 i38 := good_of Tryz.func38 Tryz.call38 c38 w38
theorem c39 : cFn (tyOf Tryz.prog) dr39 Tryz.f39 = some i39 := by kernel_rfl
theorem w39 : drawF dr39 Tryz.f39 = true := by kernel_rfl
theorem g39 : Good Tryz.prog 39 i39 := good_of Tryz.func39 Tryz.call39 c39 w39
theorem c40 : cFn (tyOf Tryz.prog) dr40 Tryz.f40 = some i40 := by kernel_rfl
theorem w40 : drawF dr40 Tryz.f40 = true := by kernel_rfl
theorem g40 : Good Tryz.prog 40 i40 := good_of Tryz.func40 Tryz.call40 c40 w40
theorem c41 : cFn (tyOf Tryz.prog) dr41 Tryz.f41 = some i41 := by kernel_rfl
theorem w41 : drawF dr41 Tryz.f41 = true := by kernel_rfl
theorem g41 : Good Tryz.prog 41 i41 := good_of Tryz.func41 Tryz.call41 c41 w41
theorem c42 : cFn (tyOf Tryz.prog) dr42 Tryz.f42 = some i42 := by kernel_rfl
theorem w42 : drawF dr42 Tryz.f42 = true := by kernel_rfl
theorem g42 : Good Tryz.prog 42 i42 := good_of Tryz.func42 Tryz.call42 c42 w42
theorem c43 : cFn (tyOf Tryz.prog) dr43 Tryz.f43 = some i43 := by kernel_rfl
theorem w43 : drawF dr43 Tryz.f43 = true := by kernel_rfl
theorem g43 : Good Tryz.prog 43 i43 := good_of Tryz.func43 Tryz.call43 c43 w43
theorem c44 : cFn (tyOf Tryz.prog) dr44 Tryz.f44 = some i44 := by kernel_rfl
theorem w44 : drawF dr44 Tryz.f44 = true := by kernel_rfl
theorem g44 : Good Tryz.prog 44 i44 := good_of Tryz.func44 Tryz.call44 c44 w44
theorem c45 : cFn (tyOf Tryz.prog) dr45 Tryz.f45 = some i45 := by kernel_rfl
theorem w45 : drawF dr45 Tryz.f45 = true := by kernel_rfl
theorem g45 : Good Tryz.prog 45 i45 := good_of Tryz.func45 Tryz.call45 c45 w45
theorem c46 : cFn (tyOf Tryz.prog) dr46 Tryz.f46 = some i46 := by kernel_rfl
theorem w46 : drawF dr46 Tryz.f46 = true := by kernel_rfl
theorem g46 : Good Tryz.prog 46 i46 := good_of Tryz.func46 Tryz.call46 c46 w46
theorem c47 : cFn (tyOf Tryz.prog) dr47 Tryz.f47 = some i47 := by kernel_rfl
theorem w47 : drawF dr47 Tryz.f47 = true := by kernel_rfl
theorem g47 : Good Tryz.prog 47 i47 := good_of Tryz.func47 Tryz.call47 c47 w47
theorem c48 : cFn (tyOf Tryz.prog) dr48 Tryz.f48 = some i48 := by kernel_rfl
theorem w48 : drawF dr48 Tryz.f48 = true := by kernel_rfl
theorem g48 : Good Tryz.prog 48 i48 := good_of Tryz.func48 Tryz.call48 c48 w48
theorem c49 : cFn (tyOf Tryz.prog) dr49 Tryz.f49 = some i49 := by kernel_rfl
theorem w49 : drawF dr49 Tryz.f49 = true := by kernel_rfl
theorem g49 : Good Tryz.prog 49 i49 := good_of Tryz.func49 Tryz.call49 c49 w49
theorem c50 : cFn (tyOf Tryz.prog) dr50 Tryz.f50 = some i50 := by kernel_rfl
theorem w50 : drawF dr50 Tryz.f50 = true := by kernel_rfl
theorem g50 : Good Tryz.prog 50 i50 := good_of Tryz.func50 Tryz.call50 c50 w50
theorem c51 : cFn (tyOf Tryz.prog) dr51 Tryz.f51 = some i51 := by kernel_rfl
theorem w51 : drawF dr51 Tryz.f51 = true := by kernel_rfl
theorem g51 : Good Tryz.prog 51 i51 := good_of Tryz.func51 Tryz.call51 c51 w51
theorem c52 : cFn (tyOf Tryz.prog) dr52 Tryz.f52 = some i52 := by kernel_rfl
theorem w52 : drawF dr52 Tryz.f52 = true := by kernel_rfl
theorem g52 : Good Tryz.prog 52 i52 := good_of Tryz.func52 Tryz.call52 c52 w52
theorem c53 : cFn (tyOf Tryz.prog) dr53 Tryz.f53 = some i53 := by kernel_rfl
theorem w53 : drawF dr53 Tryz.f53 = true := by kernel_rfl
theorem g53 : Good Tryz.prog 53 i53 := good_of Tryz.func53 Tryz.call53 c53 w53
theorem c55 : cFn (tyOf Tryz.prog) dr55 Tryz.f55 = some i55 := by kernel_rfl
theorem w55 : drawF dr55 Tryz.f55 = true := by kernel_rfl
theorem g55 : Good Tryz.prog 55 i55 := good_of Tryz.func55 Tryz.call55 c55 w55
theorem c56 : cFn (tyOf Tryz.prog) dr56 Tryz.f56 = some i56 := by kernel_rfl
theorem w56 : drawF dr56 Tryz.f56 = true := by kernel_rfl
theorem g56 : Good Tryz.prog 56 i56 := good_of Tryz.func56 Tryz.call56 c56 w56
theorem c57 : cFn (tyOf Tryz.prog) dr57 Tryz.f57 = some i57 := by kernel_rfl
theorem w57 : drawF dr57 Tryz.f57 = true := by kernel_rfl
theorem g57 : Good Tryz.prog 57 i57 := good_of Tryz.func57 Tryz.call57 c57 w57
theorem c58 : cFn (tyOf Tryz.prog) dr58 Tryz.f58 = some i58 := by kernel_rfl
theorem w58 : drawF dr58 Tryz.f58 = true := by kernel_rfl
theorem g58 : Good Tryz.prog 58 i58 := good_of Tryz.func58 Tryz.call58 c58 w58
theorem c59 : cFn (tyOf Tryz.prog) dr59 Tryz.f59 = some i59 := by kernel_rfl
theorem w59 : drawF dr59 Tryz.f59 = true := by kernel_rfl
theorem g59 : Good Tryz.prog 59 i59 := good_of Tryz.func59 Tryz.call59 c59 w59
theorem c60 : cFn (tyOf Tryz.prog) dr60 Tryz.f60 = some i60 := by kernel_rfl
theorem w60 : drawF dr60 Tryz.f60 = true := by kernel_rfl
theorem g60 : Good Tryz.prog 60 i60 := good_of Tryz.func60 Tryz.call60 c60 w60
theorem c61 : cFn (tyOf Tryz.prog) dr61 Tryz.f61 = some i61 := by kernel_rfl
theorem w61 : drawF dr61 Tryz.f61 = true := by kernel_rfl
theorem g61 : Good Tryz.prog 61 i61 := good_of Tryz.func61 Tryz.call61 c61 w61
theorem c62 : cFn (tyOf Tryz.prog) dr62 Tryz.f62 = some i62 := by kernel_rfl
theorem w62 : drawF dr62 Tryz.f62 = true := by kernel_rfl
theorem g62 : Good Tryz.prog 62 i62 := good_of Tryz.func62 Tryz.call62 c62 w62
theorem c63 : cFn (tyOf Tryz.prog) dr63 Tryz.f63 = some i63 := by kernel_rfl
theorem w63 : drawF dr63 Tryz.f63 = true := by kernel_rfl
theorem g63 : Good Tryz.prog 63 i63 := good_of Tryz.func63 Tryz.call63 c63 w63
theorem c64 : cFn (tyOf Tryz.prog) dr64 Tryz.f64 = some i64 := by kernel_rfl
theorem w64 : drawF dr64 Tryz.f64 = true := by kernel_rfl
theorem g64 : Good Tryz.prog 64 i64 := good_of Tryz.func64 Tryz.call64 c64 w64
theorem c65 : cFn (tyOf Tryz.prog) dr65 Tryz.f65 = some i65 := by kernel_rfl
theorem w65 : drawF dr65 Tryz.f65 = true := by kernel_rfl
theorem g65 : Good Tryz.prog 65 i65 := good_of Tryz.func65 Tryz.call65 c65 w65
theorem c66 : cFn (tyOf Tryz.prog) dr66 Tryz.f66 = some i66 := by kernel_rfl
theorem w66 : drawF dr66 Tryz.f66 = true := by kernel_rfl
theorem g66 : Good Tryz.prog 66 i66 := good_of Tryz.func66 Tryz.call66 c66 w66
theorem c67 : cFn (tyOf Tryz.prog) dr67 Tryz.f67 = some i67 := by kernel_rfl
theorem w67 : drawF dr67 Tryz.f67 = true := by kernel_rfl
theorem g67 : Good Tryz.prog 67 i67 := good_of Tryz.func67 Tryz.call67 c67 w67
theorem c68 : cFn (tyOf Tryz.prog) dr68 Tryz.f68 = some i68 := by kernel_rfl
theorem w68 : drawF dr68 Tryz.f68 = true := by kernel_rfl
theorem g68 : Good Tryz.prog 68 i68 := good_of Tryz.func68 Tryz.call68 c68 w68
theorem c69 : cFn (tyOf Tryz.prog) dr69 Tryz.f69 = some i69 := by kernel_rfl
theorem w69 : drawF dr69 Tryz.f69 = true := by kernel_rfl
theorem g69 : Good Tryz.prog 69 i69 := good_of Tryz.func69 Tryz.call69 c69 w69
theorem c70 : cFn (tyOf Tryz.prog) dr70 Tryz.f70 = some i70 := by kernel_rfl
theorem w70 : drawF dr70 Tryz.f70 = true := by kernel_rfl
theorem g70 : Good Tryz.prog 70 i70 := good_of Tryz.func70 Tryz.call70 c70 w70
theorem c71 : cFn (tyOf Tryz.prog) dr71 Tryz.f71 = some i71 := by kernel_rfl
theorem w71 : drawF dr71 Tryz.f71 = true := by kernel_rfl
theorem g71 : Good Tryz.prog 71 i71 := good_of Tryz.func71 Tryz.call71 c71 w71
theorem c72 : cFn (tyOf Tryz.prog) dr72 Tryz.f72 = some i72 := by kernel_rfl
theorem w72 : drawF dr72 Tryz.f72 = true := by kernel_rfl
theorem g72 : Good Tryz.prog 72 i72 := good_of Tryz.func72 Tryz.call72 c72 w72
theorem c73 : cFn (tyOf Tryz.prog) dr73 Tryz.f73 = some i73 := by kernel_rfl
theorem w73 : drawF dr73 Tryz.f73 = true := by kernel_rfl
theorem g73 : Good Tryz.prog 73 i73 := good_of Tryz.func73 Tryz.call73 c73 w73
theorem c74 : cFn (tyOf Tryz.prog) dr74 Tryz.f74 = some i74 := by kernel_rfl
theorem w74 : drawF dr74 Tryz.f74 = true := by kernel_rfl
theorem g74 : Good Tryz.prog 74 i74 := good_of Tryz.func74 Tryz.call74 c74 w74
theorem c75 : cFn (tyOf Tryz.prog) dr75 Tryz.f75 = some i75 := by kernel_rfl
theorem w75 : drawF dr75 Tryz.f75 = true := by kernel_rfl
theorem g75 : Good Tryz.prog 75 i75 := good_of Tryz.func75 Tryz.call75 c75 w75
theorem c76 : cFn (tyOf Tryz.prog) dr76 Tryz.f76 = some i76 := by kernel_rfl
theorem w76 : drawF dr76 Tryz.f76 = true := by kernel_rfl
theorem g76 : Good Tryz.prog 76 i76 := good_of Tryz.func76 Tryz.call76 c76 w76
theorem c77 : cFn (tyOf Tryz.prog) dr77 Tryz.f77 = some i77 := by kernel_rfl
theorem w77 : drawF dr77 Tryz.f77 = true := by kernel_rfl
theorem g77 : Good Tryz.prog 77 i77 := good_of Tryz.func77 Tryz.call77 c77 w77
theorem c78 : cFn (tyOf Tryz.prog) dr78 Tryz.f78 = some i78 := by kernel_rfl
theorem w78 : drawF dr78 Tryz.f78 = true := by kernel_rfl
theorem g78 : Good Tryz.prog 78 i78 := good_of Tryz.func78 Tryz.call78 c78 w78
theorem c79 : cFn (tyOf Tryz.prog) dr79 Tryz.f79 = some i79 := by kernel_rfl
theorem w79 : drawF dr79 Tryz.f79 = true := by kernel_rfl
theorem g79 : Good Tryz.prog 79 i79 := good_of Tryz.func79 Tryz.call79 c79 w79
theorem c80 : cFn (tyOf Tryz.prog) dr80 Tryz.f80 = some i80 := by kernel_rfl
theorem w80 : drawF dr80 Tryz.f80 = true := by kernel_rfl
theorem g80 : Good Tryz.prog 80 i80 := good_of Tryz.func80 Tryz.call80 c80 w80
theorem c83 : cFn (tyOf Tryz.prog) dr83 Tryz.f83 = some i83 := by kernel_rfl
theorem w83 : drawF dr83 Tryz.f83 = true := by kernel_rfl
theorem g83 : Good Tryz.prog 83 i83 := good_of Tryz.func83 Tryz.call83 c83 w83
theorem c84 : cFn (tyOf Tryz.prog) dr84 Tryz.f84 = some i84 := by kernel_rfl
theorem w84 : drawF dr84 Tryz.f84 = true := by kernel_rfl
theorem g84 : Good Tryz.prog 84 i84 := good_of Tryz.func84 Tryz.call84 c84 w84
theorem c85 : cFn (tyOf Tryz.prog) dr85 Tryz.f85 = some i85 := by kernel_rfl
theorem w85 : drawF dr85 Tryz.f85 = true := by kernel_rfl
theorem g85 : Good Tryz.prog 85 i85 := good_of Tryz.func85 Tryz.call85 c85 w85
theorem c86 : cFn (tyOf Tryz.prog) dr86 Tryz.f86 = some i86 := by kernel_rfl
theorem w86 : drawF dr86 Tryz.f86 = true := by kernel_rfl
theorem g86 : Good Tryz.prog 86 i86 := good_of Tryz.func86 Tryz.call86 c86 w86
theorem c87 : cFn (tyOf Tryz.prog) dr87 Tryz.f87 = some i87 := by kernel_rfl
theorem w87 : drawF dr87 Tryz.f87 = true := by kernel_rfl
theorem g87 : Good Tryz.prog 87 i87 := good_of Tryz.func87 Tryz.call87 c87 w87
theorem c88 : cFn (tyOf Tryz.prog) dr88 Tryz.f88 = some i88 := by kernel_rfl
theorem w88 : drawF dr88 Tryz.f88 = true := by kernel_rfl
theorem g88 : Good Tryz.prog 88 i88 := good_of Tryz.func88 Tryz.call88 c88 w88
theorem c89 : cFn (tyOf Tryz.prog) dr89 Tryz.f89 = some i89 := by kernel_rfl
theorem w89 : drawF dr89 Tryz.f89 = true := by kernel_rfl
theorem g89 : Good Tryz.prog 89 i89 := good_of Tryz.func89 Tryz.call89 c89 w89
theorem c90 : cFn (tyOf Tryz.prog) dr90 Tryz.f90 = some i90 := by kernel_rfl
theorem w90 : drawF dr90 Tryz.f90 = true := by kernel_rfl
theorem g90 : Good Tryz.prog 90 i90 := good_of Tryz.func90 Tryz.call90 c90 w90
theorem c91 : cFn (tyOf Tryz.prog) dr91 Tryz.f91 = some i91 := by kernel_rfl
theorem w91 : drawF dr91 Tryz.f91 = true := by kernel_rfl
theorem g91 : Good Tryz.prog 91 i91 := good_of Tryz.func91 Tryz.call91 c91 w91
theorem c92 : cFn (tyOf Tryz.prog) dr92 Tryz.f92 = some i92 := by kernel_rfl
theorem w92 : drawF dr92 Tryz.f92 = true := by kernel_rfl
theorem g92 : Good Tryz.prog 92 i92 := good_of Tryz.func92 Tryz.call92 c92 w92
theorem c93 : cFn (tyOf Tryz.prog) dr93 Tryz.f93 = some i93 := by kernel_rfl
theorem w93 : drawF dr93 Tryz.f93 = true := by kernel_rfl
theorem g93 : Good Tryz.prog 93 i93 := good_of Tryz.func93 Tryz.call93 c93 w93
theorem c94 : cFn (tyOf Tryz.prog) dr94 Tryz.f94 = some i94 := by kernel_rfl
theorem w94 : drawF dr94 Tryz.f94 = true := by kernel_rfl
theorem g94 : Good Tryz.prog 94 i94 := good_of Tryz.func94 Tryz.call94 c94 w94
theorem c95 : cFn (tyOf Tryz.prog) dr95 Tryz.f95 = some i95 := by kernel_rfl
theorem w95 : drawF dr95 Tryz.f95 = true := by kernel_rfl
theorem g95 : Good Tryz.prog 95 i95 := good_of Tryz.func95 Tryz.call95 c95 w95
theorem c96 : cFn (tyOf Tryz.prog) dr96 Tryz.f96 = some i96 := by kernel_rfl
theorem w96 : drawF dr96 Tryz.f96 = true := by kernel_rfl
theorem g96 : Good Tryz.prog 96 i96 := good_of Tryz.func96 Tryz.call96 c96 w96
theorem c97 : cFn (tyOf Tryz.prog) dr97 Tryz.f97 = some i97 := by kernel_rfl
theorem w97 : drawF dr97 Tryz.f97 = true := by kernel_rfl
theorem g97 : Good Tryz.prog 97 i97 := good_of Tryz.func97 Tryz.call97 c97 w97
theorem c98 : cFn (tyOf Tryz.prog) dr98 Tryz.f98 = some i98 := by kernel_rfl
theorem w98 : drawF dr98 Tryz.f98 = true := by kernel_rfl
theorem g98 : Good Tryz.prog 98 i98 := good_of Tryz.func98 Tryz.call98 c98 w98
theorem c99 : cFn (tyOf Tryz.prog) dr99 Tryz.f99 = some i99 := by kernel_rfl
theorem w99 : drawF dr99 Tryz.f99 = true := by kernel_rfl
theorem g99 : Good Tryz.prog 99 i99 := good_of Tryz.func99 Tryz.call99 c99 w99
theorem c100 : cFn (tyOf Tryz.prog) dr100 Tryz.f100 = some i100 := by kernel_rfl
theorem w100 : drawF dr100 Tryz.f100 = true := by kernel_rfl
theorem g100 : Good Tryz.prog 100 i100 := good_of Tryz.func100 Tryz.call100 c100 w100
theorem c101 : cFn (tyOf Tryz.prog) dr101 Tryz.f101 = some i101 := by kernel_rfl
theorem w101 : drawF dr101 Tryz.f101 = true := by kernel_rfl
theorem g101 : Good Tryz.prog 101 i101 := good_of Tryz.func101 Tryz.call101 c101 w101
theorem c102 : cFn (tyOf Tryz.prog) dr102 Tryz.f102 = some i102 := by kernel_rfl
theorem w102 : drawF dr102 Tryz.f102 = true := by kernel_rfl
theorem g102 : Good Tryz.prog 102 i102 := good_of Tryz.func102 Tryz.call102 c102 w102
theorem c103 : cFn (tyOf Tryz.prog) dr103 Tryz.f103 = some i103 := by kernel_rfl
theorem w103 : drawF dr103 Tryz.f103 = true := by kernel_rfl
theorem g103 : Good Tryz.prog 103 i103 := good_of Tryz.func103 Tryz.call103 c103 w103
theorem c104 : cFn (tyOf Tryz.prog) dr104 Tryz.f104 = some i104 := by kernel_rfl
theorem w104 : drawF dr104 Tryz.f104 = true := by kernel_rfl
theorem g104 : Good Tryz.prog 104 i104 := good_of Tryz.func104 Tryz.call104 c104 w104
theorem c105 : cFn (tyOf Tryz.prog) dr105 Tryz.f105 = some i105 := by kernel_rfl
theorem w105 : drawF dr105 Tryz.f105 = true := by kernel_rfl
theorem g105 : Good Tryz.prog 105 i105 := good_of Tryz.func105 Tryz.call105 c105 w105
theorem c106 : cFn (tyOf Tryz.prog) dr106 Tryz.f106 = some i106 := by kernel_rfl
theorem w106 : drawF dr106 Tryz.f106 = true := by kernel_rfl
theorem g106 : Good Tryz.prog 106 i106 := good_of Tryz.func106 Tryz.call106 c106 w106
theorem c107 : cFn (tyOf Tryz.prog) dr107 Tryz.f107 = some i107 := by kernel_rfl
theorem w107 : drawF dr107 Tryz.f107 = true := by kernel_rfl
theorem g107 : Good Tryz.prog 107 i107 := good_of Tryz.func107 Tryz.call107 c107 w107
theorem c108 : cFn (tyOf Tryz.prog) dr108 Tryz.f108 = some i108 := by kernel_rfl
theorem w108 : drawF dr108 Tryz.f108 = true := by kernel_rfl
theorem g108 : Good Tryz.prog 108 i108 := good_of Tryz.func108 Tryz.call108 c108 w108
theorem c109 : cFn (tyOf Tryz.prog) dr109 Tryz.f109 = some i109 := by kernel_rfl
theorem w109 : drawF dr109 Tryz.f109 = true := by kernel_rfl
theorem g109 : Good Tryz.prog 109 i109 := good_of Tryz.func109 Tryz.call109 c109 w109
theorem c110 : cFn (tyOf Tryz.prog) dr110 Tryz.f110 = some i110 := by kernel_rfl
theorem w110 : drawF dr110 Tryz.f110 = true := by kernel_rfl
theorem g110 : Good Tryz.prog 110 i110 := good_of Tryz.func110 Tryz.call110 c110 w110
theorem c111 : cFn (tyOf Tryz.prog) dr111 Tryz.f111 = some i111 := by kernel_rfl
theorem w111 : drawF dr111 Tryz.f111 = true := by kernel_rfl
theorem g111 : Good Tryz.prog 111 i111 := good_of Tryz.func111 Tryz.call111 c111 w111
theorem c112 : cFn (tyOf Tryz.prog) dr112 Tryz.f112 = some i112 := by kernel_rfl
theorem w112 : drawF dr112 Tryz.f112 = true := by kernel_rfl
theorem g112 : Good Tryz.prog 112 i112 := good_of Tryz.func112 Tryz.call112 c112 w112
theorem c113 : cFn (tyOf Tryz.prog) dr113 Tryz.f113 = some i113 := by kernel_rfl
theorem w113 : drawF dr113 Tryz.f113 = true := by kernel_rfl
theorem g113 : Good Tryz.prog 113 i113 := good_of Tryz.func113 Tryz.call113 c113 w113
theorem c114 : cFn (tyOf Tryz.prog) dr114 Tryz.f114 = some i114 := by kernel_rfl
theorem w114 : drawF dr114 Tryz.f114 = true := by kernel_rfl
theorem g114 : Good Tryz.prog 114 i114 := good_of Tryz.func114 Tryz.call114 c114 w114
theorem c115 : cFn (tyOf Tryz.prog) dr115 Tryz.f115 = some i115 := by kernel_rfl
theorem w115 : drawF dr115 Tryz.f115 = true := by kernel_rfl
theorem g115 : Good Tryz.prog 115 i115 := good_of Tryz.func115 Tryz.call115 c115 w115
theorem c116 : cFn (tyOf Tryz.prog) dr116 Tryz.f116 = some i116 := by kernel_rfl
theorem w116 : drawF dr116 Tryz.f116 = true := by kernel_rfl
theorem g116 : Good Tryz.prog 116 i116 := good_of Tryz.func116 Tryz.call116 c116 w116
theorem c117 : cFn (tyOf Tryz.prog) dr117 Tryz.f117 = some i117 := by kernel_rfl
theorem w117 : drawF dr117 Tryz.f117 = true := by kernel_rfl
theorem g117 : Good Tryz.prog 117 i117 := good_of Tryz.func117 Tryz.call117 c117 w117
theorem c118 : cFn (tyOf Tryz.prog) dr118 Tryz.f118 = some i118 := by kernel_rfl
theorem w118 : drawF dr118 Tryz.f118 = true := by kernel_rfl
theorem g118 : Good Tryz.prog 118 i118 := good_of Tryz.func118 Tryz.call118 c118 w118
theorem c119 : cFn (tyOf Tryz.prog) dr119 Tryz.f119 = some i119 := by kernel_rfl
theorem w119 : drawF dr119 Tryz.f119 = true := by kernel_rfl
theorem g119 : Good Tryz.prog 119 i119 := good_of Tryz.func119 Tryz.call119 c119 w119
theorem c120 : cFn (tyOf Tryz.prog) dr120 Tryz.f120 = some i120 := by kernel_rfl
theorem w120 : drawF dr120 Tryz.f120 = true := by kernel_rfl
theorem g120 : Good Tryz.prog 120 i120 := good_of Tryz.func120 Tryz.call120 c120 w120
theorem c121 : cFn (tyOf Tryz.prog) dr121 Tryz.f121 = some i121 := by kernel_rfl
theorem w121 : drawF dr121 Tryz.f121 = true := by kernel_rfl
theorem g121 : Good Tryz.prog 121 i121 := good_of Tryz.func121 Tryz.call121 c121 w121
theorem c122 : cFn (tyOf Tryz.prog) dr122 Tryz.f122 = some i122 := by kernel_rfl
theorem w122 : drawF dr122 Tryz.f122 = true := by kernel_rfl
theorem g122 : Good Tryz.prog 122 i122 := good_of Tryz.func122 Tryz.call122 c122 w122
theorem c123 : cFn (tyOf Tryz.prog) dr123 Tryz.f123 = some i123 := by kernel_rfl
theorem w123 : drawF dr123 Tryz.f123 = true := by kernel_rfl
theorem g123 : Good Tryz.prog 123 i123 := good_of Tryz.func123 Tryz.call123 c123 w123
theorem c124 : cFn (tyOf Tryz.prog) dr124 Tryz.f124 = some i124 := by kernel_rfl
theorem w124 : drawF dr124 Tryz.f124 = true := by kernel_rfl
theorem g124 : Good Tryz.prog 124 i124 := good_of Tryz.func124 Tryz.call124 c124 w124
theorem c125 : cFn (tyOf Tryz.prog) dr125 Tryz.f125 = some i125 := by kernel_rfl
theorem w125 : drawF dr125 Tryz.f125 = true := by kernel_rfl
theorem g125 : Good Tryz.prog 125 i125 := good_of Tryz.func125 Tryz.call125 c125 w125
theorem c126 : cFn (tyOf Tryz.prog) dr126 Tryz.f126 = some i126 := by kernel_rfl
theorem w126 : drawF dr126 Tryz.f126 = true := by kernel_rfl
theorem g126 : Good Tryz.prog 126 i126 := good_of Tryz.func126 Tryz.call126 c126 w126
theorem c127 : cFn (tyOf Tryz.prog) dr127 Tryz.f127 = some i127 := by kernel_rfl
theorem w127 : drawF dr127 Tryz.f127 = true := by kernel_rfl
theorem g127 : Good Tryz.prog 127 i127 := good_of Tryz.func127 Tryz.call127 c127 w127
theorem c128 : cFn (tyOf Tryz.prog) dr128 Tryz.f128 = some i128 := by kernel_rfl
theorem w128 : drawF dr128 Tryz.f128 = true := by kernel_rfl
theorem g128 : Good Tryz.prog 128 i128 := good_of Tryz.func128 Tryz.call128 c128 w128
theorem c129 : cFn (tyOf Tryz.prog) dr129 Tryz.f129 = some i129 := by kernel_rfl
theorem w129 : drawF dr129 Tryz.f129 = true := by kernel_rfl
theorem g129 : Good Tryz.prog 129 i129 := good_of Tryz.func129 Tryz.call129 c129 w129
theorem mixedX : Tryz.prog.follows .mixedOrders = true := by kernel_rfl
end Go.Ev.X
end
