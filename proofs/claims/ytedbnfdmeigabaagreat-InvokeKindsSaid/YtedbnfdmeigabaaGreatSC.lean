/-
  What the tables say of the functions.
-/
import Derived.Test.YtedbnfdmeigabaaGreatChecked
import Derived.Test.YtedbnfdmeigabaaGreatSB
set_option linter.unusedSimpArgs false
set_option linter.unusedVariables false
set_option maxRecDepth 100000
noncomputable section
namespace Go.Ev.X
open Go Go.Ev Go.Proofs
theorem c5 : cFn (tyOf Tryz.prog) dr5 Tryz.f5 = some i5 := by kernel_rfl
theorem w5 : drawF dr5 Tryz.f5 = true := by kernel_rfl
theorem g5 : Good Tryz.prog 5 i5 := good_of Tryz.func5 Tryz.call5 c5 w5
theorem c10 : cFn (tyOf Tryz.prog) dr10 Tryz.f10 = some i10 := by kernel_rfl
theorem w10 : drawF dr10 Tryz.f10 = true := by kernel_rfl
theorem g10 : Good Tryz.prog 10 i10 := good_of Tryz.func10 Tryz.call10 c10 w10
theorem c12 : cFn (tyOf Tryz.prog) dr12 Tryz.f12 = some i12 := by kernel_rfl
theorem w12 : drawF dr12 Tryz.f12 = true := by kernel_rfl
theorem g12 : Good Tryz.prog 12 i12 := good_of Tryz.func12 Tryz.call12 c12 w12
theorem c16 : cFn (tyOf Tryz.prog) dr16 Tryz.f16 = some i16 := by kernel_rfl
theorem w16 : drawF dr16 Tryz.f16 = true := by kernel_rfl
theorem g16 : Good Tryz.prog 16 i16 := good_of Tryz.func16 Tryz.call16 c16 w16
theorem c20 : cFn (tyOf Tryz.prog) dr20 Tryz.f20 = some i20 := by kernel_rfl
theorem w20 : drawF dr20 Tryz.f20 = true := by kernel_rfl
theorem g20 : Good Tryz.prog 20 i20 := good_of Tryz.func20 Tryz.call20 c20 w20
theorem c23 : cFn (tyOf Tryz.prog) dr23 Tryz.f23 = some i23 := by kernel_rfl
theorem w23 : drawF dr23 Tryz.f23 = true := by kernel_rfl
theorem g23 : Good Tryz.prog 23 i23 := good_of Tryz.func23 Tryz.call23 c23 w23
theorem c25 : cFn (tyOf Tryz.prog) dr25 Tryz.f25 = some i25 := by kernel_rfl
theorem w25 : drawF dr25 Tryz.f25 = true := by kernel_rfl
theorem g25 : Good Tryz.prog 25 i25 := good_of Tryz.func25 Tryz.call25 c25 w25
theorem c26 : cFn (tyOf Tryz.prog) dr26 Tryz.f26 = some i26 := by kernel_rfl
theorem w26 : drawF dr26 Tryz.f26 = true := by kernel_rfl
theorem g26 : Good Tryz.prog 26 i26 := good_of Tryz.func26 Tryz.call26 c26 w26
theorem c27 : cFn (tyOf Tryz.prog) dr27 Tryz.f27 = some i27 := by kernel_rfl
theorem w27 : drawF dr27 Tryz.f27 = true := by kernel_rfl
theorem g27 : Good Tryz.prog 27 i27 := good_of Tryz.func27 Tryz.call27 c27 w27
theorem c28 : cFn (tyOf Tryz.prog) dr28 Tryz.f28 = some i28 := by kernel_rfl
theorem w28 : drawF dr28 Tryz.f28 = true := by kernel_rfl
theorem g28 : Good Tryz.prog 28 i28 := good_of Tryz.func28 Tryz.call28 c28 w28
theorem c29 : cFn (tyOf Tryz.prog) dr29 Tryz.f29 = some i29 := by kernel_rfl
theorem w29 : drawF dr29 Tryz.f29 = true := by kernel_rfl
theorem g29 : Good Tryz.prog 29 i29 := good_of Tryz.func29 Tryz.call29 c29 w29
theorem c30 : cFn (tyOf Tryz.prog) dr30 Tryz.f30 = some i30 := by kernel_rfl
theorem w30 : drawF dr30 Tryz.f30 = true := by kernel_rfl
theorem g30 : Good Tryz.prog 30 i30 := good_of Tryz.func30 Tryz.call30 c30 w30
theorem c32 : cFn (tyOf Tryz.prog) dr32 Tryz.f32 = some i32 := by kernel_rfl
theorem w32 : drawF dr32 Tryz.f32 = true := by kernel_rfl
theorem g32 : Good Tryz.prog 32 i32 := good_of Tryz.func32 Tryz.call32 c32 w32
theorem c33 : cFn (tyOf Tryz.prog) dr33 Tryz.f33 = some i33 := by kernel_rfl
theorem w33 : drawF dr33 Tryz.f33 = true := by kernel_rfl
theorem g33 : Good Tryz.prog 33 i33 := good_of Tryz.func33 Tryz.call33 c33 w33
theorem c35 : cFn (tyOf Tryz.prog) dr35 Tryz.f35 = some i35 := by kernel_rfl
theorem w35 : drawF dr35 Tryz.f35 = true := by kernel_rfl
theorem g35 : Good Tryz.prog 35 i35 := good_of Tryz.func35 Tryz.call35 c35 w35
theorem c36 : cFn (tyOf Tryz.prog) dr36 Tryz.f36 = some i36 := by kernel_rfl
theorem w36 : drawF dr36 Tryz.f36 = true := by kernel_rfl
theorem g36 : Good Tryz.prog 36 i36 := good_of Tryz.func36 Tryz.call36 c36 w36
theorem c37 : cFn (tyOf Tryz.prog) dr37 Tryz.f37 = some i37 := by kernel_rfl
theorem w37 : drawF dr37 Tryz.f37 = true := by kernel_rfl
theorem g37 : Good Tryz.prog 37 i37 := good_of Tryz.func37 Tryz.call37 c37 w37
theorem c38 : cFn (tyOf Tryz.prog) dr38 Tryz.f38 = some i38 := by kernel_rfl
theorem w38 : drawF dr38 Tryz.f38 = true := by kernel_rfl
theorem g38 : Good Tryz.prog 38 i38 := good_of Tryz.func38 Tryz.call38 c38 w38
theorem c39 : cFn (tyOf Tryz.prog) dr39 Tryz.f39 = some i39 := by kernel_rfl
theorem w39 : drawF dr39 Tryz.f39 = true := by kernel_rfl
theorem g39 : Good Tryz.prog 39 i39 := good_of Tryz.func39 Tryz.call39 c39 w39
theorem c40 : cFn (tyOf Tryz.prog) dr40 Tryz.f40 = some i40 := by kernel_rfl
theorem w40 : drawF dr40 Tryz.f40 = true := by kernel_rfl
theorem g40 : Good Tryz.prog 40 i40 := good_of Tryz.func40 Tryz.call40 c40 w40
theorem c41 : cFn (tyOf Tryz.prog) dr41 Tryz.f41 = some i41 := by kernel_rfl
theorem w41 : drawF dr41 Tryz.f41 = true := by kernel_rfl
theorem g41 : Good Tryz.prog 41 i41 := good_of Tryz.func41 Tryz.call41 c41 w41
theorem c42 : cFn (tyOf Tryz.prog) dr42 Tryz.f42 = some i42 := by kernel_rfl
theorem w42 : drawF dr42 Tryz.f42 = true := by kernel_rfl
theorem g42 : Good Tryz.prog 42 i42 := good_of Tryz.func42 Tryz.call42 c42 w42
theorem c43 : cFn (tyOf Tryz.prog) dr43 Tryz.f43 = some i43 := by kernel_rfl
theorem w43 : drawF dr43 Tryz.f43 = true := by kernel_rfl
theorem g43 : Good Tryz.prog 43 i43 := good_of Tryz.func43 Tryz.call43 c43 w43
theorem c51 : cFn (tyOf Tryz.prog) dr51 Tryz.f51 = some i51 := by kernel_rfl
theorem w51 : drawF dr51 Tryz.f51 = true := by kernel_rfl
theorem g51 : Good Tryz.prog 51 i51 := good_of Tryz.func51 Tryz.call51 c51 w51
theorem c52 : cFn (tyOf Tryz.prog) dr52 Tryz.f52 = some i52 := by kernel_rfl
theorem w52 : drawF dr52 Tryz.f52 = true := by kernel_rfl
theorem g52 : Good Tryz.prog 52 i52 := good_of Tryz.func52 Tryz.call52 c52 w52
theorem c56 : cFn (tyOf Tryz.prog) dr56 Tryz.f56 = some i56 := by kernel_rfl
theorem w56 : drawF dr56 Tryz.f56 = true := by kernel_rfl
theorem g56 : Good Tryz.prog 56 i56 := good_of Tryz.func56 Tryz.call56 c56 w56
theorem c57 : cFn (tyOf Tryz.prog) dr57 Tryz.f57 = some i57 := by kernel_rfl
theorem w57 : drawF dr57 Tryz.f57 = true := by kernel_rfl
theorem g57 : Good Tryz.prog 57 i57 := good_of Tryz.func57 Tryz.call57 c57 w57
theorem c58 : cFn (tyOf Tryz.prog) dr58 Tryz.f58 = some i58 := by kernel_rfl
theorem w58 : drawF dr58 Tryz.f58 = true := by kernel_rfl
theorem g58 : Good Tryz.prog 58 i58 := good_of Tryz.func58 Tryz.call58 c58 w58
theorem c61 : cFn (tyOf Tryz.prog) dr61 Tryz.f61 = some i61 := by kernel_rfl
theorem w61 : drawF dr61 Tryz.f61 = true := by kernel_rfl
theorem g61 : Good Tryz.prog 61 i61 := good_of Tryz.func61 Tryz.call61 c61 w61
theorem c63 : cFn (tyOf Tryz.prog) dr63 Tryz.f63 = some i63 := by kernel_rfl
theorem w63 : drawF dr63 Tryz.f63 = true := by kernel_rfl
theorem g63 : Good Tryz.prog 63 i63 := good_of Tryz.func63 Tryz.call63 c63 w63
theorem c64 : cFn (tyOf Tryz.prog) dr64 Tryz.f64 = some i64 := by kernel_rfl
theorem w64 : drawF dr64 Tryz.f64 = true := by kernel_rfl
theorem g64 : Good Tryz.prog 64 i64 := good_of Tryz.func64 Tryz.call64 c64 w64
theorem c69 : cFn (tyOf Tryz.prog) dr69 Tryz.f69 = some i69 := by kernel_rfl
theorem w69 : drawF dr69 Tryz.f69 = true := by kernel_rfl
theorem g69 : Good Tryz.prog 69 i69 := good_of Tryz.func69 Tryz.call69 c69 w69
theorem c73 : cFn (tyOf Tryz.prog) dr73 Tryz.f73 = some i73 := by kernel_rfl
theorem w73 : drawF dr73 Tryz.f73 = true := by kernel_rfl
theorem g73 : Good Tryz.prog 73 i73 := good_of Tryz.func73 Tryz.call73 c73 w73
theorem c74 : cFn (tyOf Tryz.prog) dr74 Tryz.f74 = some i74 := by kernel_rfl
theorem w74 : drawF dr74 Tryz.f74 = true := by kernel_rfl
theorem g74 : Good Tryz.prog 74 i74 := good_of Tryz.func74 Tryz.call74 c74 w74
theorem c75 : cFn (tyOf Tryz.prog) dr75 Tryz.f75 = some i75 := by kernel_rfl
theorem w75 : drawF dr75 Tryz.f75 = true := by kernel_rfl
theorem g75 : Good Tryz.prog 75 i75 := good_of Tryz.func75 Tryz.call75 c75 w75
theorem c76 : cFn (tyOf Tryz.prog) dr76 Tryz.f76 = some i76 := by kernel_rfl
theorem w76 : drawF dr76 Tryz.f76 = true := by kernel_rfl
theorem g76 : Good Tryz.prog 76 i76 := good_of Tryz.func76 Tryz.call76 c76 w76
theorem c77 : cFn (tyOf Tryz.prog) dr77 Tryz.f77 = some i77 := by kernel_rfl
theorem w77 : drawF dr77 Tryz.f77 = true := by kernel_rfl
theorem g77 : Good Tryz.prog 77 i77 := good_of Tryz.func77 Tryz.call77 c77 w77
theorem c78 : cFn (tyOf Tryz.prog) dr78 Tryz.f78 = some i78 := by kernel_rfl
theorem w78 : drawF dr78 Tryz.f78 = true := by kernel_rfl
theorem g78 : Good Tryz.prog 78 i78 := good_of Tryz.func78 Tryz.call78 c78 w78
theorem c79 : cFn (tyOf Tryz.prog) dr79 Tryz.f79 = some i79 := by kernel_rfl
theorem w79 : drawF dr79 Tryz.f79 = true := by kernel_rfl
theorem g79 : Good Tryz.prog 79 i79 := good_of Tryz.func79 Tryz.call79 c79 w79
theorem c80 : cFn (tyOf Tryz.prog) dr80 Tryz.f80 = some i80 := by kernel_rfl
theorem w80 : drawF dr80 Tryz.f80 = true := by kernel_rfl
theorem g80 : Good Tryz.prog 80 i80 := good_of Tryz.func80 Tryz.call80 c80 w80
theorem c81 : cFn (tyOf Tryz.prog) dr81 Tryz.f81 = some i81 := by kernel_rfl
theorem w81 : drawF dr81 Tryz.f81 = true := by kernel_rfl
theorem g81 : Good Tryz.prog 81 i81 := good_of Tryz.func81 Tryz.call81 c81 w81
theorem c82 : cFn (tyOf Tryz.prog) dr82 Tryz.f82 = some i82 := by kernel_rfl
theorem w82 : drawF dr82 Tryz.f82 = true := by kernel_rfl
theorem g82 : Good Tryz.prog 82 i82 := good_of Tryz.func82 Tryz.call82 c82 w82
theorem c83 : cFn (tyOf Tryz.prog) dr83 Tryz.f83 = some i83 := by kernel_rfl
theorem w83 : drawF dr83 Tryz.f83 = true := by kernel_rfl
theorem g83 : Good Tryz.prog 83 i83 := good_of Tryz.func83 Tryz.call83 c83 w83
theorem c84 : cFn (tyOf Tryz.prog) dr84 Tryz.f84 = some i84 := by kernel_rfl
theorem w84 : drawF dr84 Tryz.f84 = true := by kernel_rfl
theorem g84 : Good Tryz.prog 84 i84 := good_of Tryz.func84 Tryz.call84 c84 w84
theorem c85 : cFn (tyOf Tryz.prog) dr85 Tryz.f85 = some i85 := by kernel_rfl
theorem w85 : drawF dr85 Tryz.f85 = true := by kernel_rfl
theorem g85 : Good Tryz.prog 85 i85 := good_of Tryz.func85 Tryz.call85 c85 w85
theorem c86 : cFn (tyOf Tryz.prog) dr86 Tryz.f86 = some i86 := by kernel_rfl
theorem w86 : drawF dr86 Tryz.f86 = true := by kernel_rfl
theorem g86 : Good Tryz.prog 86 i86 := good_of Tryz.func86 Tryz.call86 c86 w86
theorem c87 : cFn (tyOf Tryz.prog) dr87 Tryz.f87 = some i87 := by kernel_rfl
theorem w87 : drawF dr87 Tryz.f87 = true := by kernel_rfl
theorem g87 : Good Tryz.prog 87 i87 := good_of Tryz.func87 Tryz.call87 c87 w87
theorem c88 : cFn (tyOf Tryz.prog) dr88 Tryz.f88 = some i88 := by kernel_rfl
theorem w88 : drawF dr88 Tryz.f88 = true := by kernel_rfl
theorem g88 : Good Tryz.prog 88 i88 := good_of Tryz.func88 Tryz.call88 c88 w88
theorem c89 : cFn (tyOf Tryz.prog) dr89 Tryz.f89 = some i89 := by kernel_rfl
theorem w89 : drawF dr89 Tryz.f89 = true := by kernel_rfl
theorem g89 : Good Tryz.prog 89 i89 := good_of Tryz.func89 Tryz.call89 c89 w89
theorem c90 : cFn (tyOf Tryz.prog) dr90 Tryz.f90 = some i90 := by kernel_rfl
theorem w90 : drawF dr90 Tryz.f90 = true := by kernel_rfl
theorem g90 : Good Tryz.prog 90 i90 := good_of Tryz.func90 Tryz.call90 c90 w90
theorem c96 : cFn (tyOf Tryz.prog) dr96 Tryz.f96 = some i96 := by kernel_rfl
theorem w96 : drawF dr96 Tryz.f96 = true := by kernel_rfl
theorem g96 : Good Tryz.prog 96 i96 := good_of Tryz.func96 Tryz.call96 c96 w96
theorem c97 : cFn (tyOf Tryz.prog) dr97 Tryz.f97 = some i97 := by kernel_rfl
theorem w97 : drawF dr97 Tryz.f97 = true := by kernel_rfl
theorem g97 : Good Tryz.prog 97 i97 := good_of Tryz.func97 Tryz.call97 c97 w97
theorem c98 : cFn (tyOf Tryz.prog) dr98 Tryz.f98 = some i98 := by kernel_rfl
theorem w98 : drawF dr98 Tryz.f98 = true := by kernel_rfl
theorem g98 : Good Tryz.prog 98 i98 := good_of Tryz.func98 Tryz.call98 c98 w98
theorem c99 : cFn (tyOf Tryz.prog) dr99 Tryz.f99 = some i99 := by kernel_rfl
theorem w99 : drawF dr99 Tryz.f99 = true := by kernel_rfl
theorem g99 : Good Tryz.prog 99 i99 := good_of Tryz.func99 Tryz.call99 c99 w99
theorem c100 : cFn (tyOf Tryz.prog) dr100 Tryz.f100 = some i100 := by kernel_rfl
theorem w100 : drawF dr100 Tryz.f100 = true := by kernel_rfl
theorem g100 : Good Tryz.prog 100 i100 := good_of Tryz.func100 Tryz.call100 c100 w100
theorem c101 : cFn (tyOf Tryz.prog) dr101 Tryz.f101 = some i101 := by kernel_rfl
theorem w101 : drawF dr101 Tryz.f101 = true := by kernel_rfl
theorem g101 : Good Tryz.prog 101 i101 := good_of Tryz.func101 Tryz.call101 c101 w101
theorem c102 : cFn (tyOf Tryz.prog) dr102 Tryz.f102 = some i102 := by kernel_rfl
theorem w102 : drawF dr102 Tryz.f102 = true := by kernel_rfl
theorem g102 : Good Tryz.prog 102 i102 := good_of Tryz.func102 Tryz.call102 c102 w102
theorem c103 : cFn (tyOf Tryz.prog) dr103 Tryz.f103 = some i103 := by kernel_rfl
theorem w103 : drawF dr103 Tryz.f103 = true := by kernel_rfl
theorem g103 : Good Tryz.prog 103 i103 := good_of Tryz.func103 Tryz.call103 c103 w103
theorem c106 : cFn (tyOf Tryz.prog) dr106 Tryz.f106 = some i106 := by kernel_rfl
theorem w106 : drawF dr106 Tryz.f106 = true := by kernel_rfl
theorem g106 : Good Tryz.prog 106 i106 := good_of Tryz.func106 Tryz.call106 c106 w106
theorem c110 : cFn (tyOf Tryz.prog) dr110 Tryz.f110 = some i110 := by kernel_rfl
theorem w110 : drawF dr110 Tryz.f110 = true := by kernel_rfl
theorem g110 : Good Tryz.prog 110 i110 := good_of Tryz.func110 Tryz.call110 c110 w110
theorem c111 : cFn (tyOf Tryz.prog) dr111 Tryz.f111 = some i111 := by kernel_rfl
theorem w111 : drawF dr111 Tryz.f111 = true := by kernel_rfl
theorem g111 : Good Tryz.prog 111 i111 := good_of Tryz.func111 Tryz.call111 c111 w111
theorem c115 : cFn (tyOf Tryz.prog) dr115 Tryz.f115 = some i115 := by kernel_rfl
theorem w115 : drawF dr115 Tryz.f115 = true := by kernel_rfl
theorem g115 : Good Tryz.prog 115 i115 := good_of Tryz.func115 Tryz.call115 c115 w115
theorem c118 : cFn (tyOf Tryz.prog) dr118 Tryz.f118 = some i118 := by kernel_rfl
theorem w118 : drawF dr118 Tryz.f118 = true := by kernel_rfl
theorem g118 : Good Tryz.prog 118 i118 := good_of Tryz.func118 Tryz.call118 c118 w118
theorem c119 : cFn (tyOf Tryz.prog) dr119 Tryz.f119 = some i119 := by kernel_rfl
theorem w119 : drawF dr119 Tryz.f119 = true := by kernel_rfl
theorem g119 : Good Tryz.prog 119 i119 := good_of Tryz.func119 Tryz.call119 c119 w119
theorem c121 : cFn (tyOf Tryz.prog) dr121 Tryz.f121 = some i121 := by kernel_rfl
theorem w121 : drawF dr121 Tryz.f121 = true := by kernel_rfl
theorem g121 : Good Tryz.prog 121 i121 := good_of Tryz.func121 Tryz.call121 c121 w121
theorem c124 : cFn (tyOf Tryz.prog) dr124 Tryz.f124 = some i124 := by kernel_rfl
theorem w124 : drawF dr124 Tryz.f124 = true := by kernel_rfl
theorem g124 : Good Tryz.prog 124 i124 := good_of Tryz.func124 Tryz.call124 c124 w124
theorem c125 : cFn (tyOf Tryz.prog) dr125 Tryz.f125 = some i125 := by kernel_rfl
theorem w125 : drawF dr125 Tryz.f125 = true := by kernel_rfl
theorem g125 : Good Tryz.prog 125 i125 := good_of Tryz.func125 Tryz.call125 c125 w125
theorem c129 : cFn (tyOf Tryz.prog) dr129 Tryz.f129 = some i129 := by kernel_rfl
theorem w129 : drawF dr129 Tryz.f129 = true := by kernel_rfl
theorem g129 : Good Tryz.prog 129 i129 := good_of Tryz.func129 Tryz.call129 c129 w129
theorem c130 : cFn (tyOf Tryz.prog) dr130 Tryz.f130 = some i130 := by kernel_rfl
theorem w130 : drawF dr130 Tryz.f130 = true := by kernel_rfl
theorem g130 : Good Tryz.prog 130 i130 := good_of Tryz.func130 Tryz.call130 c130 w130
theorem c131 : cFn (tyOf Tryz.prog) dr131 Tryz.f131 = some i131 := by kernel_rfl
theorem w131 : drawF dr131 Tryz.f131 = true := by kernel_rfl
theorem g131 : Good Tryz.prog 131 i131 := good_of Tryz.func131 Tryz.call131 c131 w131
theorem c132 : cFn (tyOf Tryz.prog) dr132 Tryz.f132 = some i132 := by kernel_rfl
theorem w132 : drawF dr132 Tryz.f132 = true := by kernel_rfl
theorem g132 : Good Tryz.prog 132 i132 := good_of Tryz.func132 Tryz.call132 c132 w132
theorem c133 : cFn (tyOf Tryz.prog) dr133 Tryz.f133 = some i133 := by kernel_rfl
theorem w133 : drawF dr133 Tryz.f133 = true := by kernel_rfl
theorem g133 : Good Tryz.prog 133 i133 := good_of Tryz.func133 Tryz.call133 c133 w133
theorem c134 : cFn (tyOf Tryz.prog) dr134 Tryz.f134 = some i134 := by kernel_rfl
theorem w134 : drawF dr134 Tryz.f134 = true := by kernel_rfl
theorem g134 : Good Tryz.prog 134 i134 := good_of Tryz.func134 Tryz.call134 c134 w134
theorem c135 : cFn (tyOf Tryz.prog) dr135 Tryz.f135 = some i135 := by kernel_rfl
theorem w135 : drawF dr135 Tryz.f135 = true := by kernel_rfl
theorem g135 : Good Tryz.prog 135 i135 := good_of Tryz.func135 Tryz.call135 c135 w135
theorem c137 : cFn (tyOf Tryz.prog) dr137 Tryz.f137 = some i137 := by kernel_rfl
theorem w137 : drawF dr137 Tryz.f137 = true := by kernel_rfl
theorem g137 : Good Tryz.prog 137 i137 := good_of Tryz.func137 Tryz.call137 c137 w137
theorem c138 : cFn (tyOf Tryz.prog) dr138 Tryz.f138 = some i138 := by kernel_rfl
theorem w138 : drawF dr138 Tryz.f138 = true := by kernel_rfl
theorem g138 : Good Tryz.prog 138 i138 := good_of Tryz.func138 Tryz.call138 c138 w138
theorem c139 : cFn (tyOf Tryz.prog) dr139 Tryz.f139 = some i139 := by kernel_rfl
theorem w139 : drawF dr139 Tryz.f139 = true := by kernel_rfl
theorem g139 : Good Tryz.prog 139 i139 := good_of Tryz.func139 Tryz.call139 c139 w139
theorem c140 : cFn (tyOf Tryz.prog) dr140 Tryz.f140 = some i140 := by kernel_rfl
theorem w140 : drawF dr140 Tryz.f140 = true := by kernel_rfl
theorem g140 : Good Tryz.prog 140 i140 := good_of Tryz.func140 Tryz.call140 c140 w140
theorem c141 : cFn (tyOf Tryz.prog) dr141 Tryz.f141 = some i141 := by kernel_rfl
theorem w141 : drawF dr141 Tryz.f141 = true := by kernel_rfl
theorem g141 : Good Tryz.prog 141 i141 := good_of Tryz.func141 Tryz.call141 c141 w141
theorem c142 : cFn (tyOf Tryz.prog) dr142 Tryz.f142 = some i142 := by kernel_rfl
theorem w142 : drawF dr142 Tryz.f142 = true := by kernel_rfl
theorem g142 : Good Tryz.prog 142 i142 := good_of Tryz.func142 Tryz.call142 c142 w142
theorem c143 : cFn (tyOf Tryz.prog) dr143 Tryz.f143 = some i143 := by kernel_rfl
theorem w143 : drawF dr143 Tryz.f143 = true := by kernel_rfl
theorem g143 : Good Tryz.prog 143 i143 := good_of Tryz.func143 Tryz.call143 c143 w143
theorem c144 : cFn (tyOf Tryz.prog) dr144 Tryz.f144 = some i144 := by kernel_rfl
theorem w144 : drawF dr144 Tryz.f144 = true := by kernel_rfl
theorem g144 : Good Tryz.prog 144 i144 := good_of Tryz.func144 Tryz.call144 c144 w144
theorem c145 : cFn (tyOf Tryz.prog) dr145 Tryz.f145 = some i145 := by kernel_rfl
theorem w145 : drawF dr145 Tryz.f145 = true := by kernel_rfl
theorem g145 : Good Tryz.prog 145 i145 := good_of Tryz.func145 Tryz.call145 c145 w145
theorem c146 : cFn (tyOf Tryz.prog) dr146 Tryz.f146 = some i146 := by kernel_rfl
theorem w146 : drawF dr146 Tryz.f146 = true := by kernel_rfl
theorem g146 : Good Tryz.prog 146 i146 := good_of Tryz.func146 Tryz.call146 c146 w146
theorem c147 : cFn (tyOf Tryz.prog) dr147 Tryz.f147 = some i147 := by kernel_rfl
theorem w147 : drawF dr147 Tryz.f147 = true := by kernel_rfl
theorem g147 : Good Tryz.prog 147 i147 := good_of Tryz.func147 Tryz.call147 c147 w147
theorem c148 : cFn (tyOf Tryz.prog) dr148 Tryz.f148 = some i148 := by kernel_rfl
theorem w148 : drawF dr148 Tryz.f148 = true := by kernel_rfl
theorem g148 : Good Tryz.prog 148 i148 := good_of Tryz.func148 Tryz.call148 c148 w148
theorem c149 : cFn (tyOf Tryz.prog) dr149 Tryz.f149 = some i149 := by kernel_rfl
theorem w149 : drawF dr149 Tryz.f149 = true := by kernel_rfl
theorem g149 : Good Tryz.prog 149 i149 := good_of Tryz.func149 Tryz.call149 c149 w149
theorem c152 : cFn (tyOf Tryz.prog) dr152 Tryz.f152 = some i152 := by kernel_rfl
theorem w152 : drawF dr152 Tryz.f152 = true := by kernel_rfl
theorem g152 : Good Tryz.prog 152 i152 := good_of Tryz.func152 Tryz.call152 c152 w152
theorem c154 : cFn (tyOf Tryz.prog) dr154 Tryz.f154 = some i154 := by kernel_rfl
theorem w154 : drawF dr154 Tryz.f154 = true := by kernel_rfl
theorem g154 : Good Tryz.prog 154 i154 := good_of Tryz.func154 Tryz.call154 c154 w154
theorem c156 : cFn (tyOf Tryz.prog) dr156 Tryz.f156 = some i156 := by kernel_rfl
theorem w156 : drawF dr156 Tryz.f156 = true := by kernel_rfl
theorem g156 : Good Tryz.prog 156 i156 := good_of Tryz.func156 Tryz.call156 c156 w156
theorem c159 : cFn (tyOf Tryz.prog) dr159 Tryz.f159 = some i159 := by kernel_rfl
theorem w159 : drawF dr159 Tryz.f159 = true := by kernel_rfl
theorem g159 : Good Tryz.prog 159 i159 := good_of Tryz.func159 Tryz.call159 c159 w159
theorem c163 : cFn (tyOf Tryz.prog) dr163 Tryz.f163 = some i163 := by kernel_rfl
theorem w163 : drawF dr163 Tryz.f163 = true := by kernel_rfl
theorem g163 : Good Tryz.prog 163 i163 := good_of Tryz.func163 Tryz.call163 c163 w163
theorem c164 : cFn (tyOf Tryz.prog) dr164 Tryz.f164 = some i164 := by kernel_rfl
theorem w164 : drawF dr164 Tryz.f164 = true := by kernel_rfl
theorem g164 : Good Tryz.prog 164 i164 := good_of Tryz.func164 Tryz.call164 c164 w164
theorem c165 : cFn (tyOf Tryz.prog) dr165 Tryz.f165 = some i165 := by kernel_rfl
theorem w165 : drawF dr165 Tryz.f165 = true := by kernel_rfl
theorem g165 : Good Tryz.prog 165 i165 := good_of Tryz.func165 Tryz.call165 c165 w165
theorem c167 : cFn (tyOf Tryz.prog) dr167 Tryz.f167 = some i167 := by kernel_rfl
theorem w167 : drawF dr167 Tryz.f167 = true := by kernel_rfl
theorem g167 : Good Tryz.prog 167 i167 := good_of Tryz.func167 Tryz.call167 c167 w167
theorem c168 : cFn (tyOf Tryz.prog) dr168 Tryz.f168 = some i168 := by kernel_rfl
theorem w168 : drawF dr168 Tryz.f168 = true := by kernel_rfl
theorem g168 : Good Tryz.prog 168 i168 := good_of Tryz.func168 Tryz.call168 c168 w168
theorem c169 : cFn (tyOf Tryz.prog) dr169 Tryz.f169 = some i169 := by kernel_rfl
theorem w169 : drawF dr169 Tryz.f169 = true := by kernel_rfl
theorem g169 : Good Tryz.prog 169 i169 := good_of Tryz.func169 Tryz.call169 c169 w169
theorem c170 : cFn (tyOf Tryz.prog) dr170 Tryz.f170 = some i170 := by kernel_rfl
theorem w170 : drawF dr170 Tryz.f170 = true := by kernel_rfl
theorem g170 : Good Tryz.prog 170 i170 := good_of Tryz.func170 Tryz.call170 c170 w170
theorem c171 : cFn (tyOf Tryz.prog) dr171 Tryz.f171 = some i171 := by kernel_rfl
theorem w171 : drawF dr171 Tryz.f171 = true := by kernel_rfl
theorem g171 : Good Tryz.prog 171 i171 := good_of Tryz.func171 Tryz.call171 c171 w171
theorem c172 : cFn (tyOf Tryz.prog) dr172 Tryz.f172 = some i172 := by kernel_rfl
theorem w172 : drawF dr172 Tryz.f172 = true := by kernel_rfl
theorem g172 : Good Tryz.prog 172 i172 := good_of Tryz.func172 Tryz.call172 c172 w172
theorem c173 : cFn (tyOf Tryz.prog) dr173 Tryz.f173 = some i173 := by kernel_rfl
theorem w173 : drawF dr173 Tryz.f173 = true := by kernel_rfl
theorem g173 : Good Tryz.prog 173 i173 := good_of Tryz.func173 Tryz.call173 c173 w173
theorem c175 : cFn (tyOf Tryz.prog) dr175 Tryz.f175 = some i175 := by kernel_rfl
theorem w175 : drawF dr175 Tryz.f175 = true := by kernel_rfl
theorem g175 : Good Tryz.prog 175 i175 := good_of Tryz.func175 Tryz.call175 c175 w175
theorem c176 : cFn (tyOf Tryz.prog) dr176 Tryz.f176 = some i176 := by kernel_rfl
theorem w176 : drawF dr176 Tryz.f176 = true := by kernel_rfl
theorem g176 : Good Tryz.prog 176 i176 := good_of Tryz.func176 Tryz.call176 c176 w176
theorem c177 : cFn (tyOf Tryz.prog) dr177 Tryz.f177 = some i177 := by kernel_rfl
theorem w177 : drawF dr177 Tryz.f177 = true := by kernel_rfl
theorem g177 : Good Tryz.prog 177 i177 := good_of Tryz.func177 Tryz.call177 c177 w177
theorem c178 : cFn (tyOf Tryz.prog) dr178 Tryz.f178 = some i178 := by kernel_rfl
theorem w178 : drawF dr178 Tryz.f178 = true := by kernel_rfl
theorem g178 : Good Tryz.prog 178 i178 := good_of Tryz.func178 Tryz.call178 c178 w178
theorem c180 : cFn (tyOf Tryz.prog) dr180 Tryz.f180 = some i180 := by kernel_rfl
theorem w180 : drawF dr180 Tryz.f180 = true := by kernel_rfl
theorem g180 : Good Tryz.prog 180 i180 := good_of Tryz.func180 Tryz.call180 c180 w180
theorem c181 : cFn (tyOf Tryz.prog) dr181 Tryz.f181 = some i181 := by kernel_rfl
theorem w181 : drawF dr181 Tryz.f181 = true := by kernel_rfl
theorem g181 : Good Tryz.prog 181 i181 := good_of Tryz.func181 Tryz.call181 c181 w181
theorem c189 : cFn (tyOf Tryz.prog) dr189 Tryz.f189 = some i189 := by kernel_rfl
theorem w189 : drawF dr189 Tryz.f189 = true := by kernel_rfl
theorem g189 : Good Tryz.prog 189 i189 := good_of Tryz.func189 Tryz.call189 c189 w189
theorem c190 : cFn (tyOf Tryz.prog) dr190 Tryz.f190 = some i190 := by kernel_rfl
theorem w190 : drawF dr190 Tryz.f190 = true := by kernel_rfl
theorem g190 : Good Tryz.prog 190 i190 := good_of Tryz.func190 Tryz.call190 c190 w190
theorem c191 : cFn (tyOf Tryz.prog) dr191 Tryz.f191 = some i191 := by kernel_rfl
theorem w191 : drawF dr191 Tryz.f191 = true := by kernel_rfl
theorem g191 : Good Tryz.prog 191 i191 := good_of Tryz.func191 Tryz.call191 c191 w191
theorem c192 : cFn (tyOf Tryz.prog) dr192 Tryz.f192 = some i192 := by kernel_rfl
theorem w192 : drawF dr192 Tryz.f192 = true := by kernel_rfl
theorem g192 : Good Tryz.prog 192 i192 := good_of Tryz.func192 Tryz.call192 c192 w192
theorem c197 : cFn (tyOf Tryz.prog) dr197 Tryz.f197 = some i197 := by kernel_rfl
theorem w197 : drawF dr197 Tryz.f197 = true := by kernel_rfl
theorem g197 : Good Tryz.prog 197 i197 := good_of Tryz.func197 Tryz.call197 c197 w197
theorem c198 : cFn (tyOf Tryz.prog) dr198 Tryz.f198 = some i198 := by kernel_rfl
theorem w198 : drawF dr198 Tryz.f198 = true := by kernel_rfl
theorem g198 : Good Tryz.prog 198 i198 := good_of Tryz.func198 Tryz.call198 c198 w198
theorem c200 : cFn (tyOf Tryz.prog) dr200 Tryz.f200 = some i200 := by kernel_rfl
theorem w200 : drawF dr200 Tryz.f200 = true := by kernel_rfl
theorem g200 : Good Tryz.prog 200 i200 := good_of Tryz.func200 Tryz.call200 c200 w200
theorem c202 : cFn (tyOf Tryz.prog) dr202 Tryz.f202 = some i202 := by kernel_rfl
theorem w202 : drawF dr202 Tryz.f202 = true := by kernel_rfl
theorem g202 : Good Tryz.prog 202 i202 := good_of Tryz.func202 Tryz.call202 c202 w202
theorem c205 : cFn (tyOf Tryz.prog) dr205 Tryz.f205 = some i205 := by kernel_rfl
theorem w205 : drawF dr205 Tryz.f205 = true := by kernel_rfl
theorem g205 : Good Tryz.prog 205 i205 := good_of Tryz.func205 Tryz.call205 c205 w205
theorem c206 : cFn (tyOf Tryz.prog) dr206 Tryz.f206 = some i206 := by kernel_rfl
theorem w206 : drawF dr206 Tryz.f206 = true := by kernel_rfl
theorem g206 : Good Tryz.prog 206 i206 := good_of Tryz.func206 Tryz.call206 c206 w206
theorem c207 : cFn (tyOf Tryz.prog) dr207 Tryz.f207 = some i207 := by kernel_rfl
theorem w207 : drawF dr207 Tryz.f207 = true := by kernel_rfl
theorem g207 : Good Tryz.prog 207 i207 := good_of Tryz.func207 Tryz.call207 c207 w207
theorem c208 : cFn (tyOf Tryz.prog) dr208 Tryz.f208 = some i208 := by kernel_rfl
theorem w208 : drawF dr208 Tryz.f208 = true := by kernel_rfl
theorem g208 : Good Tryz.prog 208 i208 := good_of Tryz.func208 Tryz.call208 c208 w208
theorem c209 : cFn (tyOf Tryz.prog) dr209 Tryz.f209 = some i209 := by kernel_rfl
theorem w209 : drawF dr209 Tryz.f209 = true := by kernel_rfl
theorem g209 : Good Tryz.prog 209 i209 := good_of Tryz.func209 Tryz.call209 c209 w209
theorem c211 : cFn (tyOf Tryz.prog) dr211 Tryz.f211 = some i211 := by kernel_rfl
theorem w211 : drawF dr211 Tryz.f211 = true := by kernel_rfl
theorem g211 : Good Tryz.prog 211 i211 := good_of Tryz.func211 Tryz.call211 c211 w211
theorem c212 : cFn (tyOf Tryz.prog) dr212 Tryz.f212 = some i212 := by kernel_rfl
theorem w212 : drawF dr212 Tryz.f212 = true := by kernel_rfl
theorem g212 : Good Tryz.prog 212 i212 := good_of Tryz.func212 Tryz.call212 c212 w212
theorem c221 : cFn (tyOf Tryz.prog) dr221 Tryz.f221 = some i221 := by kernel_rfl
theorem w221 : drawF dr221 Tryz.f221 = true := by kernel_rfl
theorem g221 : Good Tryz.prog 221 i221 := good_of Tryz.func221 Tryz.call221 c221 w221
theorem c223 : cFn (tyOf Tryz.prog) dr223 Tryz.f223 = some i223 := by kernel_rfl
theorem w223 : drawF dr223 Tryz.f223 = true := by kernel_rfl
theorem g223 : Good Tryz.prog 223 i223 := good_of Tryz.func223 Tryz.call223 c223 w223
theorem c229 : cFn (tyOf Tryz.prog) dr229 Tryz.f229 = some i229 := by kernel_rfl
theorem w229 : drawF dr229 Tryz.f229 = true := by kernel_rfl
theorem g229 : Good Tryz.prog 229 i229 := good_of Tryz.func229 Tryz.call229 c229 w229
theorem c233 : cFn (tyOf Tryz.prog) dr233 Tryz.f233 = some i233 := by kernel_rfl
theorem w233 : drawF dr233 Tryz.f233 = true := by kernel_rfl
theorem g233 : Good Tryz.prog 233 i233 := good_of Tryz.func233 Tryz.call233 c233 w233
theorem c234 : cFn (tyOf Tryz.prog) dr234 Tryz.f234 = some i234 := by kernel_rfl
theorem w234 : drawF dr234 Tryz.f234 = true := by kernel_rfl
theorem g234 : Good Tryz.prog 234 i234 := good_of Tryz.func234 Tryz.call234 c234 w234
theorem c235 : cFn (tyOf Tryz.prog) dr235 Tryz.f235 = some i235 := by kernel_rfl
theorem w235 : drawF dr235 Tryz.f235 = true := by kernel_rfl
theorem g235 : Good Tryz.prog 235 i235 := good_of Tryz.func235 Tryz.call235 c235 w235
theorem c236 : cFn (tyOf Tryz.prog) dr236 Tryz.f236 = some i236 := by kernel_rfl
theorem w236 : drawF dr236 Tryz.f236 = true := by kernel_rfl
theorem g236 : Good Tryz.prog 236 i236 := good_of Tryz.func236 Tryz.call236 c236 w236
theorem c237 : cFn (tyOf Tryz.prog) dr237 Tryz.f237 = some i237 := by kernel_rfl
theorem w237 : drawF dr237 Tryz.f237 = true := by kernel_rfl
theorem g237 : Good Tryz.prog 237 i237 := good_of Tryz.func237 Tryz.call237 c237 w237
theorem c238 : cFn (tyOf Tryz.prog) dr238 Tryz.f238 = some i238 := by kernel_rfl
theorem w238 : drawF dr238 Tryz.f238 = true := by kernel_rfl
theorem g238 : Good Tryz.prog 238 i238 := good_of Tryz.func238 Tryz.call238 c238 w238
theorem c245 : cFn (tyOf Tryz.prog) dr245 Tryz.f245 = some i245 := by kernel_rfl
theorem w245 : drawF dr245 Tryz.f245 = true := by kernel_rfl
theorem g245 : Good Tryz.prog 245 i245 := good_of Tryz.func245 Tryz.call245 c245 w245
theorem c246 : cFn (tyOf Tryz.prog) dr246 Tryz.f246 = some i246 := by kernel_rfl
theorem w246 : drawF dr246 Tryz.f246 = true := by kernel_rfl
theorem g246 : Good Tryz.prog 246 i246 := good_of Tryz.func246 Tryz.call246 c246 w246
theorem c247 : cFn (tyOf Tryz.prog) dr247 Tryz.f247 = some i247 := by kernel_rfl
theorem w247 : drawF dr247 Tryz.f247 = true := by kernel_rfl
theorem g247 : Good Tryz.prog 247 i247 := good_of Tryz.func247 Tryz.call247 c247 w247
theorem c248 : cFn (tyOf Tryz.prog) dr248 Tryz.f248 = some i248 := by kernel_rfl
theorem w248 : drawF dr248 Tryz.f248 = true := by kernel_rfl
theorem g248 : Good Tryz.prog 248 i248 := good_of Tryz.func248 Tryz.call248 c248 w248
theorem c249 : cFn (tyOf Tryz.prog) dr249 Tryz.f249 = some i249 := by kernel_rfl
theorem w249 : drawF dr249 Tryz.f249 = true := by kernel_rfl
theorem g249 : Good Tryz.prog 249 i249 := good_of Tryz.func249 Tryz.call249 c249 w249
theorem c250 : cFn (tyOf Tryz.prog) dr250 Tryz.f250 = some i250 := by kernel_rfl
theorem w250 : drawF dr250 Tryz.f250 = true := by kernel_rfl
theorem g250 : Good Tryz.prog 250 i250 := good_of Tryz.func250 Tryz.call250 c250 w250
theorem c251 : cFn (tyOf Tryz.prog) dr251 Tryz.f251 = some i251 := by kernel_rfl
theorem w251 : drawF dr251 Tryz.f251 = true := by kernel_rfl
theorem g251 : Good Tryz.prog 251 i251 := good_of Tryz.func251 Tryz.call251 c251 w251
theorem c252 : cFn (tyOf Tryz.prog) dr252 Tryz.f252 = some i252 := by kernel_rfl
theorem w252 : drawF dr252 Tryz.f252 = true := by kernel_rfl
theorem g252 : Good Tryz.prog 252 i252 := good_of Tryz.func252 Tryz.call252 c252 w252
theorem c253 : cFn (tyOf Tryz.prog) dr253 Tryz.f253 = some i253 := by kernel_rfl
theorem w253 : drawF dr253 Tryz.f253 = true := by kernel_rfl
theorem g253 : Good Tryz.prog 253 i253 := good_of Tryz.func253 Tryz.call253 c253 w253
theorem c255 : cFn (tyOf Tryz.prog) dr255 Tryz.f255 = some i255 := by kernel_rfl
theorem w255 : drawF dr255 Tryz.f255 = true := by kernel_rfl
theorem g255 : Good Tryz.prog 255 i255 := good_of Tryz.func255 Tryz.call255 c255 w255
theorem c256 : cFn (tyOf Tryz.prog) dr256 Tryz.f256 = some i256 := by kernel_rfl
theorem w256 : drawF dr256 Tryz.f256 = true := by kernel_rfl
theorem g256 : Good Tryz.prog 256 i256 := good_of Tryz.func256 Tryz.call256 c256 w256
theorem c257 : cFn (tyOf Tryz.prog) dr257 Tryz.f257 = some i257 := by kernel_rfl
theorem w257 : drawF dr257 Tryz.f257 = true := by kernel_rfl
theorem g257 : Good Tryz.prog 257 i257 := good_of Tryz.func257 Tryz.call257 c257 w257
theorem c258 : cFn (tyOf Tryz.prog) dr258 Tryz.f258 = some i258 := by kernel_rfl
theorem w258 : drawF dr258 Tryz.f258 = true := by kernel_rfl
theorem g258 : Good Tryz.prog 258 i258 := good_of Tryz.func258 Tryz.call258 c258 w258
theorem c274 : cFn (tyOf Tryz.prog) dr274 Tryz.f274 = some i274 := by kernel_rfl
theorem w274 : drawF dr274 Tryz.f274 = true := by kernel_rfl
theorem g274 : Good Tryz.prog 274 i274 := good_of Tryz.func274 Tryz.call274 c274 w274
theorem c279 : cFn (tyOf Tryz.prog) dr279 Tryz.f279 = some i279 := by kernel_rfl
theorem w279 : drawF dr279 Tryz.f279 = true := by kernel_rfl
theorem g279 : Good Tryz.prog 279 i279 := good_of Tryz.func279 Tryz.call279 c279 w279
theorem c285 : cFn (tyOf Tryz.prog) dr285 Tryz.f285 = some i285 := by kernel_rfl
theorem w285 : drawF dr285 Tryz.f285 = true := by kernel_rfl
theorem g285 : Good Tryz.prog 285 i285 := good_of Tryz.func285 Tryz.call285 c285 w285
theorem c289 : cFn (tyOf Tryz.prog) dr289 Tryz.f289 = some i289 := by kernel_rfl
theorem w289 : drawF dr289 Tryz.f289 = true := by kernel_rfl
theorem g289 : Good Tryz.prog 289 i289 := good_of Tryz.func289 Tryz.call289 c289 w289
theorem c294 : cFn (tyOf Tryz.prog) dr294 Tryz.f294 = some i294 := by kernel_rfl
theorem w294 : drawF dr294 Tryz.f294 = true := by kernel_rfl
theorem g294 : Good Tryz.prog 294 i294 := good_of Tryz.func294 Tryz.call294 c294 w294
theorem c295 : cFn (tyOf Tryz.prog) dr295 Tryz.f295 = some i295 := by kernel_rfl
theorem w295 : drawF dr295 Tryz.f295 = true := by kernel_rfl
theorem g295 : Good Tryz.prog 295 i295 := good_of Tryz.func295 Tryz.call295 c295 w295
theorem c296 : cFn (tyOf Tryz.prog) dr296 Tryz.f296 = some i296 := by kernel_rfl
theorem w296 : drawF dr296 Tryz.f296 = true := by kernel_rfl
theorem g296 : Good Tryz.prog 296 i296 := good_of Tryz.func296 Tryz.call296 c296 w296
theorem c297 : cFn (tyOf Tryz.prog) dr297 Tryz.f297 = some i297 := by kernel_rfl
theorem w297 : drawF dr297 Tryz.f297 = true := by kernel_rfl
theorem g297 : Good Tryz.prog 297 i297 := good_of Tryz.func297 Tryz.call297 c297 w297
theorem c315 : cFn (tyOf Tryz.prog) dr315 Tryz.f315 = some i315 := by kernel_rfl
theorem w315 : drawF dr315 Tryz.f315 = true := by kernel_rfl
theorem g315 : Good Tryz.prog 315 i315 := good_of Tryz.func315 Tryz.call315 c315 w315
theorem mixedX : Tryz.prog.follows .mixedOrders = true := by kernel_rfl
end Go.Ev.X
end
