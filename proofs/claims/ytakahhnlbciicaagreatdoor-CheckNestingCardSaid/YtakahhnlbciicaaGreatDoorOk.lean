/-
  Each function's code in the evaluator's form is the program's. Printed by a program.
-/
import Derived.Test.YtakahhnlbciicaaGreatDoorIr
import Derived.Test.YtakahhnlbciicaaGreatDoorRows
import Derived.KernelRfl
import Derived.Laws.Externs
namespace Go.Proofs.YtakahhnlbciicaaGreatDoor.Ai
open Go
set_option maxRecDepth 100000
theorem ok_3 : okFun id gls (some 134) Tryz.prog 3 f3 = true := by kernel_rfl
theorem ok_4 : okFun id gls (some 134) Tryz.prog 4 f4 = true := by kernel_rfl
theorem ok_5 : okFun id gls (some 134) Tryz.prog 5 f5 = true := by kernel_rfl
theorem ok_7 : okFun id gls (some 134) Tryz.prog 7 f7 = true := by kernel_rfl
theorem ok_8 : okFun id gls (some 134) Tryz.prog 8 f8 = true := by kernel_rfl
theorem ok_12 : okFun id gls (some 134) Tryz.prog 12 f12 = true := by kernel_rfl
theorem ok_13 : okFun id gls (some 134) Tryz.prog 13 f13 = true := by kernel_rfl
theorem ok_14 : okFun id gls (some 134) Tryz.prog 14 f14 = true := by kernel_rfl
theorem ok_21 : okFun id gls (some 134) Tryz.prog 21 f21 = true := by kernel_rfl
theorem ok_22 : okFun id gls (some 134) Tryz.prog 22 f22 = true := by kernel_rfl
theorem ok_23 : okFun id gls (some 134) Tryz.prog 23 f23 = true := by kernel_rfl
theorem ok_24 : okFun id gls (some 134) Tryz.prog 24 f24 = true := by kernel_rfl
theorem ok_25 : okFun id gls (some 134) Tryz.prog 25 f25 = true := by kernel_rfl
theorem ok_26 : okFun id gls (some 134) Tryz.prog 26 f26 = true := by kernel_rfl
theorem ok_27 : okFun id gls (some 134) Tryz.prog 27 f27 = true := by kernel_rfl
theorem ok_28 : okFun id gls (some 134) Tryz.prog 28 f28 = true := by kernel_rfl
theorem ok_29 : okFun id gls (some 134) Tryz.prog 29 f29 = true := by kernel_rfl
theorem ok_30 : okFun id gls (some 134) Tryz.prog 30 f30 = true := by kernel_rfl
theorem ok_31 : okFun id gls (some 134) Tryz.prog 31 f31 = true := by kernel_rfl
theorem ok_32 : okFun id gls (some 134) Tryz.prog 32 f32 = true := by kernel_rfl
theorem ok_37 : okFun id gls (some 134) Tryz.prog 37 f37 = true := by kernel_rfl
theorem ok_38 : okFun id gls (some 134) Tryz.prog 38 f38 = true := by kernel_rfl
theorem ok_39 : okFun id gls (some 134) Tryz.prog 39 f39 = true := by kernel_rfl
theorem ok_40 : okFun id gls (some 134) Tryz.prog 40 f40 = true := by kernel_rfl
theorem ok_41 : okFun id gls (some 134) Tryz.prog 41 f41 = true := by kernel_rfl
theorem ok_42 : okFun id gls (some 134) Tryz.prog 42 f42 = true := by kernel_rfl
theorem ok_44 : okFun id gls (some 134) Tryz.prog 44 f44 = true := by kernel_rfl
theorem ok_45 : okFun id gls (some 134) Tryz.prog 45 f45 = true := by kernel_rfl
theorem ok_46 : okFun id gls (some 134) Tryz.prog 46 f46 = true := by kernel_rfl
theorem ok_47 : okFun id gls (some 134) Tryz.prog 47 f47 = true := by kernel_rfl
theorem ok_48 : okFun id gls (some 134) Tryz.prog 48 f48 = true := by kernel_rfl
theorem ok_49 : okFun id gls (some 134) Tryz.prog 49 f49 = true := by kernel_rfl
theorem ok_50 : okFun id gls (some 134) Tryz.prog 50 f50 = true := by kernel_rfl
theorem ok_51 : okFun id gls (some 134) Tryz.prog 51 f51 = true := by kernel_rfl
theorem ok_52 : okFun id gls (some 134) Tryz.prog 52 f52 = true := by kernel_rfl
theorem ok_53 : okFun id gls (some 134) Tryz.prog 53 f53 = true := by kernel_rfl
theorem ok_54 : okFun id gls (some 134) Tryz.prog 54 f54 = true := by kernel_rfl
theorem ok_55 : okFun id gls (some 134) Tryz.prog 55 f55 = true := by kernel_rfl
theorem ok_56 : okFun id gls (some 134) Tryz.prog 56 f56 = true := by kernel_rfl
theorem ok_63 : okFun id gls (some 134) Tryz.prog 63 f63 = true := by kernel_rfl
theorem ok_64 : okFun id gls (some 134) Tryz.prog 64 f64 = true := by kernel_rfl
theorem ok_65 : okFun id gls (some 134) Tryz.prog 65 f65 = true := by kernel_rfl
theorem ok_66 : okFun id gls (some 134) Tryz.prog 66 f66 = true := by kernel_rfl
theorem ok_67 : okFun id gls (some 134) Tryz.prog 67 f67 = true := by kernel_rfl
theorem ok_68 : okFun id gls (some 134) Tryz.prog 68 f68 = true := by kernel_rfl
theorem ok_69 : okFun id gls (some 134) Tryz.prog 69 f69 = true := by kernel_rfl
theorem ok_70 : okFun id gls (some 134) Tryz.prog 70 f70 = true := by kernel_rfl
theorem ok_71 : okFun id gls (some 134) Tryz.prog 71 f71 = true := by kernel_rfl
theorem ok_72 : okFun id gls (some 134) Tryz.prog 72 f72 = true := by kernel_rfl
theorem ok_73 : okFun id gls (some 134) Tryz.prog 73 f73 = true := by kernel_rfl
theorem ok_74 : okFun id gls (some 134) Tryz.prog 74 f74 = true := by kernel_rfl
theorem ok_75 : okFun id gls (some 134) Tryz.prog 75 f75 = true := by kernel_rfl
theorem ok_76 : okFun id gls (some 134) Tryz.prog 76 f76 = true := by kernel_rfl
theorem ok_77 : okFun id gls (some 134) Tryz.prog 77 f77 = true := by kernel_rfl
theorem ok_85 : okFun id gls (some 134) Tryz.prog 85 f85 = true := by kernel_rfl
theorem ok_86 : okFun id gls (some 134) Tryz.prog 86 f86 = true := by kernel_rfl
theorem ok_87 : okFun id gls (some 134) Tryz.prog 87 f87 = true := by kernel_rfl
theorem ok_88 : okFun id gls (some 134) Tryz.prog 88 f88 = true := by kernel_rfl
theorem ok_89 : okFun id gls (some 134) Tryz.prog 89 f89 = true := by kernel_rfl
theorem ok_90 : okFun id gls (some 134) Tryz.prog 90 f90 = true := by kernel_rfl
theorem ok_91 : okFun id gls (some 134) Tryz.prog 91 f91 = true := by kernel_rfl
theorem ok_92 : okFun id gls (some 134) Tryz.prog 92 f92 = true := by kernel_rfl
theorem ok_93 : okFun id gls (some 134) Tryz.prog 93 f93 = true := by kernel_rfl
theorem ok_94 : okFun id gls (some 134) Tryz.prog 94 f94 = true := by kernel_rfl
theorem ok_95 : okFun id gls (some 134) Tryz.prog 95 f95 = true := by kernel_rfl
theorem ok_96 : okFun id gls (some 134) Tryz.prog 96 f96 = true := by kernel_rfl
theorem ok_97 : okFun id gls (some 134) Tryz.prog 97 f97 = true := by kernel_rfl
theorem ok_98 : okFun id gls (some 134) Tryz.prog 98 f98 = true := by kernel_rfl
theorem ok_99 : okFun id gls (some 134) Tryz.prog 99 f99 = true := by kernel_rfl
theorem ok_100 : okFun id gls (some 134) Tryz.prog 100 f100 = true := by kernel_rfl
theorem ok_101 : okFun id gls (some 134) Tryz.prog 101 f101 = true := by kernel_rfl
theorem ok_102 : okFun id gls (some 134) Tryz.prog 102 f102 = true := by kernel_rfl
theorem ok_103 : okFun id gls (some 134) Tryz.prog 103 f103 = true := by kernel_rfl
theorem ok_104 : okFun id gls (some 134) Tryz.prog 104 f104 = true := by kernel_rfl
theorem ok_105 : okFun id gls (some 134) Tryz.prog 105 f105 = true := by kernel_rfl
theorem ok_113 : okFun id gls (some 134) Tryz.prog 113 f113 = true := by kernel_rfl
theorem ok_114 : okFun id gls (some 134) Tryz.prog 114 f114 = true := by kernel_rfl
theorem ok_115 : okFun id gls (some 134) Tryz.prog 115 f115 = true := by kernel_rfl
theorem ok_117 : okFun id gls (some 134) Tryz.prog 117 f117 = true := by kernel_rfl
theorem ok_118 : okFun id gls (some 134) Tryz.prog 118 f118 = true := by kernel_rfl
theorem ok_120 : okFun id gls (some 134) Tryz.prog 120 f120 = true := by kernel_rfl
theorem ok_121 : okFun id gls (some 134) Tryz.prog 121 f121 = true := by kernel_rfl
theorem ok_122 : okFun id gls (some 134) Tryz.prog 122 f122 = true := by kernel_rfl
theorem ok_123 : okFun id gls (some 134) Tryz.prog 123 f123 = true := by kernel_rfl
theorem ok_124 : okFun id gls (some 134) Tryz.prog 124 f124 = true := by kernel_rfl
theorem ok_125 : okFun id gls (some 134) Tryz.prog 125 f125 = true := by kernel_rfl
theorem ok_126 : okFun id gls (some 134) Tryz.prog 126 f126 = true := by kernel_rfl
theorem ok_127 : okFun id gls (some 134) Tryz.prog 127 f127 = true := by kernel_rfl
theorem ok_128 : okFun id gls (some 134) Tryz.prog 128 f128 = true := by kernel_rfl
theorem ok_129 : okFun id gls (some 134) Tryz.prog 129 f129 = true := by kernel_rfl
theorem ok_130 : okFun id gls (some 134) Tryz.prog 130 f130 = true := by kernel_rfl
theorem ok_131 : okFun id gls (some 134) Tryz.prog 131 f131 = true := by kernel_rfl
theorem ok_135 : okFun id gls (some 134) Tryz.prog 135 f135 = true := by kernel_rfl
theorem ok_140 : okFun id gls (some 134) Tryz.prog 140 f140 = true := by kernel_rfl
theorem ok_141 : okFun id gls (some 134) Tryz.prog 141 f141 = true := by kernel_rfl
theorem ok_142 : okFun id gls (some 134) Tryz.prog 142 f142 = true := by kernel_rfl
theorem ok_143 : okFun id gls (some 134) Tryz.prog 143 f143 = true := by kernel_rfl
theorem ok_144 : okFun id gls (some 134) Tryz.prog 144 f144 = true := by kernel_rfl
theorem ok_145 : okFun id gls (some 134) Tryz.prog 145 f145 = true := by kernel_rfl
theorem ok_146 : okFun id gls (some 134) Tryz.prog 146 f146 = true := by kernel_rfl
theorem ok_147 : okFun id gls (some 134) Tryz.prog 147 f147 = true := by kernel_rfl
theorem ok_152 : okFun id gls (some 134) Tryz.prog 152 f152 = true := by kernel_rfl
theorem ok (f : Nat) (F : Fun) (h : fns f = some F) : okFun id gls (some 134) Tryz.prog f F = true := by
  unfold fns at h
  split at h
  · cases h; exact ok_3
  · cases h; exact ok_4
  · cases h; exact ok_5
  · cases h; exact ok_7
  · cases h; exact ok_8
  · cases h; exact ok_12
  · cases h; exact ok_13
  · cases h; exact ok_14
  · cases h; exact ok_21
  · cases h; exact ok_22
  · cases h; exact ok_23
  · cases h; exact ok_24
  · cases h; exact ok_25
  · cases h; exact ok_26
  · cases h; exact ok_27
  · cases h; exact ok_28
  · cases h; exact ok_29
  · cases h; exact ok_30
  · cases h; exact ok_31
  · cases h; exact ok_32
  · cases h; exact ok_37
  · cases h; exact ok_38
  · cases h; exact ok_39
  · cases h; exact ok_40
  · cases h; exact ok_41
  · cases h; exact ok_42
  · cases h; exact ok_44
  · cases h; exact ok_45
  · cases h; exact ok_46
  · cases h; exact ok_47
  · cases h; exact ok_48
  · cases h; exact ok_49
  · cases h; exact ok_50
  · cases h; exact ok_51
  · cases h; exact ok_52
  · cases h; exact ok_53
  · cases h; exact ok_54
  · cases h; exact ok_55
  · cases h; exact ok_56
  · cases h; exact ok_63
  · cases h; exact ok_64
  · cases h; exact ok_65
  · cases h; exact ok_66
  · cases h; exact ok_67
  · cases h; exact ok_68
  · cases h; exact ok_69
  · cases h; exact ok_70
  · cases h; exact ok_71
  · cases h; exact ok_72
  · cases h; exact ok_73
  · cases h; exact ok_74
  · cases h; exact ok_75
  · cases h; exact ok_76
  · cases h; exact ok_77
  · cases h; exact ok_85
  · cases h; exact ok_86
  · cases h; exact ok_87
  · cases h; exact ok_88
  · cases h; exact ok_89
  · cases h; exact ok_90
  · cases h; exact ok_91
  · cases h; exact ok_92
  · cases h; exact ok_93
  · cases h; exact ok_94
  · cases h; exact ok_95
  · cases h; exact ok_96
  · cases h; exact ok_97
  · cases h; exact ok_98
  · cases h; exact ok_99
  · cases h; exact ok_100
  · cases h; exact ok_101
  · cases h; exact ok_102
  · cases h; exact ok_103
  · cases h; exact ok_104
  · cases h; exact ok_105
  · cases h; exact ok_113
  · cases h; exact ok_114
  · cases h; exact ok_115
  · cases h; exact ok_117
  · cases h; exact ok_118
  · cases h; exact ok_120
  · cases h; exact ok_121
  · cases h; exact ok_122
  · cases h; exact ok_123
  · cases h; exact ok_124
  · cases h; exact ok_125
  · cases h; exact ok_126
  · cases h; exact ok_127
  · cases h; exact ok_128
  · cases h; exact ok_129
  · cases h; exact ok_130
  · cases h; exact ok_131
  · cases h; exact ok_135
  · cases h; exact ok_140
  · cases h; exact ok_141
  · cases h; exact ok_142
  · cases h; exact ok_143
  · cases h; exact ok_144
  · cases h; exact ok_145
  · cases h; exact ok_146
  · cases h; exact ok_147
  · cases h; exact ok_152
  · cases h
theorem hix (f : Nat) (h : (some 134) = some f) (args : Array Value) (w : World) : (callFunc f args).run Tryz.prog w = ((Extern.BytealgIndexByte.indexByte args).run Tryz.prog w).andThen fun v w' => .ok (.value v) w' := by
  cases h
  exact run_callFunc_extern Tryz.func134 (by kernel_rfl) (by kernel_rfl) (by kernel_rfl) (by kernel_rfl) args w
end Go.Proofs.YtakahhnlbciicaaGreatDoor.Ai
