/-
  Each function's code in the evaluator's form is the program's. Printed by a program.
-/
import Derived.Test.YtpcinbogdlhndaaDoorIr
import Derived.Test.YtpcinbogdlhndaaDoorRows
import Derived.KernelRfl
import Derived.Laws.Externs
namespace Go.Proofs.YtpcinbogdlhndaaDoor.Ai
open Go
set_option maxRecDepth 100000
theorem ok_3 : okFun id gls (some 78) Tryd.prog 3 f3 = true := by kernel_rfl
theorem ok_4 : okFun id gls (some 78) Tryd.prog 4 f4 = true := by kernel_rfl
theorem ok_5 : okFun id gls (some 78) Tryd.prog 5 f5 = true := by kernel_rfl
theorem ok_6 : okFun id gls (some 78) Tryd.prog 6 f6 = true := by kernel_rfl
theorem ok_7 : okFun id gls (some 78) Tryd.prog 7 f7 = true := by kernel_rfl
theorem ok_8 : okFun id gls (some 78) Tryd.prog 8 f8 = true := by kernel_rfl
theorem ok_9 : okFun id gls (some 78) Tryd.prog 9 f9 = true := by kernel_rfl
theorem ok_10 : okFun id gls (some 78) Tryd.prog 10 f10 = true := by kernel_rfl
theorem ok_11 : okFun id gls (some 78) Tryd.prog 11 f11 = true := by kernel_rfl
theorem ok_14 : okFun id gls (some 78) Tryd.prog 14 f14 = true := by kernel_rfl
theorem ok_15 : okFun id gls (some 78) Tryd.prog 15 f15 = true := by kernel_rfl
theorem ok_16 : okFun id gls (some 78) Tryd.prog 16 f16 = true := by kernel_rfl
theorem ok_17 : okFun id gls (some 78) Tryd.prog 17 f17 = true := by kernel_rfl
theorem ok_18 : okFun id gls (some 78) Tryd.prog 18 f18 = true := by kernel_rfl
theorem ok_19 : okFun id gls (some 78) Tryd.prog 19 f19 = true := by kernel_rfl
theorem ok_22 : okFun id gls (some 78) Tryd.prog 22 f22 = true := by kernel_rfl
theorem ok_23 : okFun id gls (some 78) Tryd.prog 23 f23 = true := by kernel_rfl
theorem ok_24 : okFun id gls (some 78) Tryd.prog 24 f24 = true := by kernel_rfl
theorem ok_25 : okFun id gls (some 78) Tryd.prog 25 f25 = true := by kernel_rfl
theorem ok_26 : okFun id gls (some 78) Tryd.prog 26 f26 = true := by kernel_rfl
theorem ok_27 : okFun id gls (some 78) Tryd.prog 27 f27 = true := by kernel_rfl
theorem ok_28 : okFun id gls (some 78) Tryd.prog 28 f28 = true := by kernel_rfl
theorem ok_29 : okFun id gls (some 78) Tryd.prog 29 f29 = true := by kernel_rfl
theorem ok_30 : okFun id gls (some 78) Tryd.prog 30 f30 = true := by kernel_rfl
theorem ok_31 : okFun id gls (some 78) Tryd.prog 31 f31 = true := by kernel_rfl
theorem ok_32 : okFun id gls (some 78) Tryd.prog 32 f32 = true := by kernel_rfl
theorem ok_33 : okFun id gls (some 78) Tryd.prog 33 f33 = true := by kernel_rfl
theorem ok_34 : okFun id gls (some 78) Tryd.prog 34 f34 = true := by kernel_rfl
theorem ok_35 : okFun id gls (some 78) Tryd.prog 35 f35 = true := by kernel_rfl
theorem ok_40 : okFun id gls (some 78) Tryd.prog 40 f40 = true := by kernel_rfl
theorem ok_41 : okFun id gls (some 78) Tryd.prog 41 f41 = true := by kernel_rfl
theorem ok_42 : okFun id gls (some 78) Tryd.prog 42 f42 = true := by kernel_rfl
theorem ok_43 : okFun id gls (some 78) Tryd.prog 43 f43 = true := by kernel_rfl
theorem ok_44 : okFun id gls (some 78) Tryd.prog 44 f44 = true := by kernel_rfl
theorem ok_46 : okFun id gls (some 78) Tryd.prog 46 f46 = true := by kernel_rfl
theorem ok_47 : okFun id gls (some 78) Tryd.prog 47 f47 = true := by kernel_rfl
theorem ok_48 : okFun id gls (some 78) Tryd.prog 48 f48 = true := by kernel_rfl
theorem ok_49 : okFun id gls (some 78) Tryd.prog 49 f49 = true := by kernel_rfl
theorem ok_50 : okFun id gls (some 78) Tryd.prog 50 f50 = true := by kernel_rfl
theorem ok_51 : okFun id gls (some 78) Tryd.prog 51 f51 = true := by kernel_rfl
theorem ok_52 : okFun id gls (some 78) Tryd.prog 52 f52 = true := by kernel_rfl
theorem ok_58 : okFun id gls (some 78) Tryd.prog 58 f58 = true := by kernel_rfl
theorem ok_59 : okFun id gls (some 78) Tryd.prog 59 f59 = true := by kernel_rfl
theorem ok_60 : okFun id gls (some 78) Tryd.prog 60 f60 = true := by kernel_rfl
theorem ok_61 : okFun id gls (some 78) Tryd.prog 61 f61 = true := by kernel_rfl
theorem ok_62 : okFun id gls (some 78) Tryd.prog 62 f62 = true := by kernel_rfl
theorem ok_63 : okFun id gls (some 78) Tryd.prog 63 f63 = true := by kernel_rfl
theorem ok_64 : okFun id gls (some 78) Tryd.prog 64 f64 = true := by kernel_rfl
theorem ok_65 : okFun id gls (some 78) Tryd.prog 65 f65 = true := by kernel_rfl
theorem ok_66 : okFun id gls (some 78) Tryd.prog 66 f66 = true := by kernel_rfl
theorem ok_67 : okFun id gls (some 78) Tryd.prog 67 f67 = true := by kernel_rfl
theorem ok_71 : okFun id gls (some 78) Tryd.prog 71 f71 = true := by kernel_rfl
theorem ok_72 : okFun id gls (some 78) Tryd.prog 72 f72 = true := by kernel_rfl
theorem ok_73 : okFun id gls (some 78) Tryd.prog 73 f73 = true := by kernel_rfl
theorem ok_75 : okFun id gls (some 78) Tryd.prog 75 f75 = true := by kernel_rfl
theorem ok_79 : okFun id gls (some 78) Tryd.prog 79 f79 = true := by kernel_rfl
theorem ok (f : Nat) (F : Fun) (h : fns f = some F) : okFun id gls (some 78) Tryd.prog f F = true := by
  unfold fns at h
  split at h
  · cases h; exact ok_3
  · cases h; exact ok_4
  · cases h; exact ok_5
  · cases h; exact ok_6
  · cases h; exact ok_7
  · cases h; exact ok_8
  · cases h; exact ok_9
  · cases h; exact ok_10
  · cases h; exact ok_11
  · cases h; exact ok_14
  · cases h; exact ok_15
  · cases h; exact ok_16
  · cases h; exact ok_17
  · cases h; exact ok_18
  · cases h; exact ok_19
  · cases h; exact ok_22
  · cases h; exact ok_23
  · cases h; exact ok_24
  · cases h; exact ok_25
  · cases h; exact ok_26
  · cases h; exact ok_27
  · cases h; exact ok_28
  · cases h; exact ok_29
  · cases h; exact ok_30
  · cases h; exact ok_31
  · cases h; exact ok_32
  · cases h; exact ok_33
  · cases h; exact ok_34
  · cases h; exact ok_35
  · cases h; exact ok_40
  · cases h; exact ok_41
  · cases h; exact ok_42
  · cases h; exact ok_43
  · cases h; exact ok_44
  · cases h; exact ok_46
  · cases h; exact ok_47
  · cases h; exact ok_48
  · cases h; exact ok_49
  · cases h; exact ok_50
  · cases h; exact ok_51
  · cases h; exact ok_52
  · cases h; exact ok_58
  · cases h; exact ok_59
  · cases h; exact ok_60
  · cases h; exact ok_61
  · cases h; exact ok_62
  · cases h; exact ok_63
  · cases h; exact ok_64
  · cases h; exact ok_65
  · cases h; exact ok_66
  · cases h; exact ok_67
  · cases h; exact ok_71
  · cases h; exact ok_72
  · cases h; exact ok_73
  · cases h; exact ok_75
  · cases h; exact ok_79
  · cases h
theorem hix (f : Nat) (h : (some 78) = some f) (args : Array Value) (w : World) : (callFunc f args).run Tryd.prog w = ((Extern.BytealgIndexByte.indexByte args).run Tryd.prog w).andThen fun v w' => .ok (.value v) w' := by
  cases h
  exact run_callFunc_extern Tryd.func78 (by kernel_rfl) (by kernel_rfl) (by kernel_rfl) (by kernel_rfl) args w
end Go.Proofs.YtpcinbogdlhndaaDoor.Ai
