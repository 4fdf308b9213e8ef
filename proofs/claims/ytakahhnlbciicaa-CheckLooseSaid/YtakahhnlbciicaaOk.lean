/-
  Each function's code in the evaluator's form is the program's. By an AI agent; no person has read it.
-/
import Derived.Test.YtakahhnlbciicaaClIr
import Derived.Test.YtakahhnlbciicaaRows
import Derived.KernelRfl
namespace Go.Proofs.Ytakahhnlbciicaa.Cl
open Go Go.Proofs.Ytakahhnlbciicaa.Ai
set_option maxRecDepth 100000
def gls : List Nat := []
theorem okf_3 : okFun id gls none Try.prog 3 f3 = true := by kernel_rfl
theorem okf_5 : okFun id gls none Try.prog 5 f5 = true := by kernel_rfl
theorem okf_6 : okFun id gls none Try.prog 6 f6 = true := by kernel_rfl
theorem okf_7 : okFun id gls none Try.prog 7 f7 = true := by kernel_rfl
theorem okf_8 : okFun id gls none Try.prog 8 f8 = true := by kernel_rfl
theorem okf_10 : okFun id gls none Try.prog 10 f10 = true := by kernel_rfl
theorem okf_11 : okFun id gls none Try.prog 11 f11 = true := by kernel_rfl
theorem okf_12 : okFun id gls none Try.prog 12 f12 = true := by kernel_rfl
theorem okf_13 : okFun id gls none Try.prog 13 f13 = true := by kernel_rfl
theorem okf_14 : okFun id gls none Try.prog 14 f14 = true := by kernel_rfl
theorem okf_15 : okFun id gls none Try.prog 15 f15 = true := by kernel_rfl
theorem okf_16 : okFun id gls none Try.prog 16 f16 = true := by kernel_rfl
theorem okf_17 : okFun id gls none Try.prog 17 f17 = true := by kernel_rfl
theorem okf_18 : okFun id gls none Try.prog 18 f18 = true := by kernel_rfl
theorem okf_19 : okFun id gls none Try.prog 19 f19 = true := by kernel_rfl
theorem okf_20 : okFun id gls none Try.prog 20 f20 = true := by kernel_rfl
theorem okf_21 : okFun id gls none Try.prog 21 f21 = true := by kernel_rfl
theorem okf_22 : okFun id gls none Try.prog 22 f22 = true := by kernel_rfl
theorem okf_23 : okFun id gls none Try.prog 23 f23 = true := by kernel_rfl
theorem okf_27 : okFun id gls none Try.prog 27 f27 = true := by kernel_rfl
theorem okf_28 : okFun id gls none Try.prog 28 f28 = true := by kernel_rfl
theorem okf_29 : okFun id gls none Try.prog 29 f29 = true := by kernel_rfl
theorem okf_30 : okFun id gls none Try.prog 30 f30 = true := by kernel_rfl
theorem okf_31 : okFun id gls none Try.prog 31 f31 = true := by kernel_rfl
theorem okf_32 : okFun id gls none Try.prog 32 f32 = true := by kernel_rfl
theorem okf_33 : okFun id gls none Try.prog 33 f33 = true := by kernel_rfl
theorem okf_34 : okFun id gls none Try.prog 34 f34 = true := by kernel_rfl
theorem okf_35 : okFun id gls none Try.prog 35 f35 = true := by kernel_rfl
theorem okf_36 : okFun id gls none Try.prog 36 f36 = true := by kernel_rfl
theorem okf_37 : okFun id gls none Try.prog 37 f37 = true := by kernel_rfl
theorem okf_38 : okFun id gls none Try.prog 38 f38 = true := by kernel_rfl
theorem okf_39 : okFun id gls none Try.prog 39 f39 = true := by kernel_rfl
theorem okf_40 : okFun id gls none Try.prog 40 f40 = true := by kernel_rfl
theorem okf_41 : okFun id gls none Try.prog 41 f41 = true := by kernel_rfl
theorem okf_42 : okFun id gls none Try.prog 42 f42 = true := by kernel_rfl
theorem okf_43 : okFun id gls none Try.prog 43 f43 = true := by kernel_rfl
theorem okf_44 : okFun id gls none Try.prog 44 f44 = true := by kernel_rfl
theorem okf_45 : okFun id gls none Try.prog 45 f45 = true := by kernel_rfl
theorem okf_46 : okFun id gls none Try.prog 46 f46 = true := by kernel_rfl
theorem okf_48 : okFun id gls none Try.prog 48 f48 = true := by kernel_rfl
theorem okf_49 : okFun id gls none Try.prog 49 f49 = true := by kernel_rfl
theorem okf_50 : okFun id gls none Try.prog 50 f50 = true := by kernel_rfl
theorem okf_51 : okFun id gls none Try.prog 51 f51 = true := by kernel_rfl
theorem okf_52 : okFun id gls none Try.prog 52 f52 = true := by kernel_rfl
theorem okf_53 : okFun id gls none Try.prog 53 f53 = true := by kernel_rfl
theorem okf_54 : okFun id gls none Try.prog 54 f54 = true := by kernel_rfl
theorem okf_55 : okFun id gls none Try.prog 55 f55 = true := by kernel_rfl
theorem okf_56 : okFun id gls none Try.prog 56 f56 = true := by kernel_rfl
theorem okf_57 : okFun id gls none Try.prog 57 f57 = true := by kernel_rfl
theorem okf_58 : okFun id gls none Try.prog 58 f58 = true := by kernel_rfl
theorem okf_59 : okFun id gls none Try.prog 59 f59 = true := by kernel_rfl
theorem okf_60 : okFun id gls none Try.prog 60 f60 = true := by kernel_rfl
theorem okf_61 : okFun id gls none Try.prog 61 f61 = true := by kernel_rfl
theorem okf_62 : okFun id gls none Try.prog 62 f62 = true := by kernel_rfl
theorem okf_63 : okFun id gls none Try.prog 63 f63 = true := by kernel_rfl
theorem okf_64 : okFun id gls none Try.prog 64 f64 = true := by kernel_rfl
theorem okf_65 : okFun id gls none Try.prog 65 f65 = true := by kernel_rfl
theorem okf_66 : okFun id gls none Try.prog 66 f66 = true := by kernel_rfl
theorem okf_67 : okFun id gls none Try.prog 67 f67 = true := by kernel_rfl
theorem okf_68 : okFun id gls none Try.prog 68 f68 = true := by kernel_rfl
theorem okf_70 : okFun id gls none Try.prog 70 f70 = true := by kernel_rfl
theorem okf_71 : okFun id gls none Try.prog 71 f71 = true := by kernel_rfl
theorem okf_74 : okFun id gls none Try.prog 74 f74 = true := by kernel_rfl
theorem okf_75 : okFun id gls none Try.prog 75 f75 = true := by kernel_rfl
theorem okf_76 : okFun id gls none Try.prog 76 f76 = true := by kernel_rfl
theorem okf_77 : okFun id gls none Try.prog 77 f77 = true := by kernel_rfl
theorem okf_78 : okFun id gls none Try.prog 78 f78 = true := by kernel_rfl
theorem okf_79 : okFun id gls none Try.prog 79 f79 = true := by kernel_rfl
theorem okf_80 : okFun id gls none Try.prog 80 f80 = true := by kernel_rfl
theorem okf_81 : okFun id gls none Try.prog 81 f81 = true := by kernel_rfl
theorem okf_82 : okFun id gls none Try.prog 82 f82 = true := by kernel_rfl
theorem okf_83 : okFun id gls none Try.prog 83 f83 = true := by kernel_rfl
theorem okf_84 : okFun id gls none Try.prog 84 f84 = true := by kernel_rfl
theorem okf_85 : okFun id gls none Try.prog 85 f85 = true := by kernel_rfl
theorem okf_86 : okFun id gls none Try.prog 86 f86 = true := by kernel_rfl
theorem okf_87 : okFun id gls none Try.prog 87 f87 = true := by kernel_rfl
theorem okf_88 : okFun id gls none Try.prog 88 f88 = true := by kernel_rfl
theorem okf_89 : okFun id gls none Try.prog 89 f89 = true := by kernel_rfl
theorem okf_90 : okFun id gls none Try.prog 90 f90 = true := by kernel_rfl
theorem okf_91 : okFun id gls none Try.prog 91 f91 = true := by kernel_rfl
theorem okf_92 : okFun id gls none Try.prog 92 f92 = true := by kernel_rfl
theorem okf_93 : okFun id gls none Try.prog 93 f93 = true := by kernel_rfl
theorem okf_94 : okFun id gls none Try.prog 94 f94 = true := by kernel_rfl
theorem okf_95 : okFun id gls none Try.prog 95 f95 = true := by kernel_rfl
theorem okf_96 : okFun id gls none Try.prog 96 f96 = true := by kernel_rfl
theorem okf_97 : okFun id gls none Try.prog 97 f97 = true := by kernel_rfl
theorem okf_98 : okFun id gls none Try.prog 98 f98 = true := by kernel_rfl
theorem okf_99 : okFun id gls none Try.prog 99 f99 = true := by kernel_rfl
theorem okf_100 : okFun id gls none Try.prog 100 f100 = true := by kernel_rfl
theorem okf_101 : okFun id gls none Try.prog 101 f101 = true := by kernel_rfl
theorem okf_102 : okFun id gls none Try.prog 102 f102 = true := by kernel_rfl
theorem okf_103 : okFun id gls none Try.prog 103 f103 = true := by kernel_rfl
theorem okf_104 : okFun id gls none Try.prog 104 f104 = true := by kernel_rfl
theorem okf_105 : okFun id gls none Try.prog 105 f105 = true := by kernel_rfl
theorem okf_106 : okFun id gls none Try.prog 106 f106 = true := by kernel_rfl
theorem okf_107 : okFun id gls none Try.prog 107 f107 = true := by kernel_rfl
theorem ok (f : Nat) (F : Fun) (h : fns f = some F) : okFun id gls none Try.prog f F = true := by
  unfold fns at h
  split at h
  · cases h; exact okf_3
  · cases h; exact okf_5
  · cases h; exact okf_6
  · cases h; exact okf_7
  · cases h; exact okf_8
  · cases h; exact okf_10
  · cases h; exact okf_11
  · cases h; exact okf_12
  · cases h; exact okf_13
  · cases h; exact okf_14
  · cases h; exact okf_15
  · cases h; exact okf_16
  · cases h; exact okf_17
  · cases h; exact okf_18
  · cases h; exact okf_19
  · cases h; exact okf_20
  · cases h; exact okf_21
  · cases h; exact okf_22
  · cases h; exact okf_23
  · cases h; exact okf_27
  · cases h; exact okf_28
  · cases h; exact okf_29
  · cases h; exact okf_30
  · cases h; exact okf_31
  · cases h; exact okf_32
  · cases h; exact okf_33
  · cases h; exact okf_34
  · cases h; exact okf_35
  · cases h; exact okf_36
  · cases h; exact okf_37
  · cases h; exact okf_38
  · cases h; exact okf_39
  · cases h; exact okf_40
  · cases h; exact okf_41
  · cases h; exact okf_42
  · cases h; exact okf_43
  · cases h; exact okf_44
  · cases h; exact okf_45
  · cases h; exact okf_46
  · cases h; exact okf_48
  · cases h; exact okf_49
  · cases h; exact okf_50
  · cases h; exact okf_51
  · cases h; exact okf_52
  · cases h; exact okf_53
  · cases h; exact okf_54
  · cases h; exact okf_55
  · cases h; exact okf_56
  · cases h; exact okf_57
  · cases h; exact okf_58
  · cases h; exact okf_59
  · cases h; exact okf_60
  · cases h; exact okf_61
  · cases h; exact okf_62
  · cases h; exact okf_63
  · cases h; exact okf_64
  · cases h; exact okf_65
  · cases h; exact okf_66
  · cases h; exact okf_67
  · cases h; exact okf_68
  · cases h; exact okf_70
  · cases h; exact okf_71
  · cases h; exact okf_74
  · cases h; exact okf_75
  · cases h; exact okf_76
  · cases h; exact okf_77
  · cases h; exact okf_78
  · cases h; exact okf_79
  · cases h; exact okf_80
  · cases h; exact okf_81
  · cases h; exact okf_82
  · cases h; exact okf_83
  · cases h; exact okf_84
  · cases h; exact okf_85
  · cases h; exact okf_86
  · cases h; exact okf_87
  · cases h; exact okf_88
  · cases h; exact okf_89
  · cases h; exact okf_90
  · cases h; exact okf_91
  · cases h; exact okf_92
  · cases h; exact okf_93
  · cases h; exact okf_94
  · cases h; exact okf_95
  · cases h; exact okf_96
  · cases h; exact okf_97
  · cases h; exact okf_98
  · cases h; exact okf_99
  · cases h; exact okf_100
  · cases h; exact okf_101
  · cases h; exact okf_102
  · cases h; exact okf_103
  · cases h; exact okf_104
  · cases h; exact okf_105
  · cases h; exact okf_106
  · cases h; exact okf_107
  · cases h
theorem hix (f : Nat) (h : none = some f) (args : Array Value) (w : World) : (callFunc f args).run Try.prog w = ((Extern.BytealgIndexByte.indexByte args).run Try.prog w).andThen fun v w' => .ok (.value v) w' := by
  cases h
end Go.Proofs.Ytakahhnlbciicaa.Cl
