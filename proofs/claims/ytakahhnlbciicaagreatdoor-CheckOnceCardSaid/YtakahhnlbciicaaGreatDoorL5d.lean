/-
  Closed runs of functions, evaluated by the kernel; each is the program's. Printed by a program.
-/
import Derived.Test.YtakahhnlbciicaaGreatDoorOk
namespace Go.Proofs.YtakahhnlbciicaaGreatDoor.Ai
open Go Go.RowKit
set_option maxRecDepth 100000
def a_5_7_f : Nat := 8
def a_5_7 : List V := [.str [119, 104, 105, 108, 101, 32, 120, 32, 123, 32, 115, 101, 116, 32, 102, 32, 49, 59, 32, 125], .str [], .int .i64 7, .int .i64 3]
theorem run_5_7 : gives true (call fns 3000 8 a_5_7 (deads gls ⟨1000, .nil⟩)) = true := by kernel_rfl
theorem leaf_5_7 : Known.Ok id Tryz.prog ⟨a_5_7_f, a_5_7, .bool true⟩ := known_of_run ok hix (n := 3000) (nx := 1000) (by decide) rfl run_5_7
def a_5_8_f : Nat := 8
def a_5_8 : List V := [.str [106, 111, 105, 110, 32, 116, 59], .str [], .int .i64 7, .int .i64 3]
theorem run_5_8 : gives true (call fns 3000 8 a_5_8 (deads gls ⟨1000, .nil⟩)) = true := by kernel_rfl
theorem leaf_5_8 : Known.Ok id Tryz.prog ⟨a_5_8_f, a_5_8, .bool true⟩ := known_of_run ok hix (n := 3000) (nx := 1000) (by decide) rfl run_5_8
end Go.Proofs.YtakahhnlbciicaaGreatDoor.Ai
