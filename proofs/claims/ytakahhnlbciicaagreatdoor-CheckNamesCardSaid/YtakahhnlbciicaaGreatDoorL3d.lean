/-
  Closed runs of functions, evaluated by the kernel; each is the program's. Printed by a program.
-/
import Derived.Test.YtakahhnlbciicaaGreatDoorOk
namespace Go.Proofs.YtakahhnlbciicaaGreatDoor.Ai
open Go Go.RowKit
set_option maxRecDepth 100000
def a_3_7_f : Nat := 8
def a_3_7 : List V := [.str [108, 111, 99, 107, 32, 114, 32, 123, 32, 125], .str [], .int .i64 6, .int .i64 3]
theorem run_3_7 : gives true (call fns 3000 8 a_3_7 (deads gls ⟨1000, .nil⟩)) = true := by kernel_rfl
theorem leaf_3_7 : Known.Ok id Tryz.prog ⟨a_3_7_f, a_3_7, .bool true⟩ := known_of_run ok hix (n := 3000) (nx := 1000) (by decide) rfl run_3_7
def a_3_8_f : Nat := 8
def a_3_8 : List V := [.str [114, 101, 97, 100, 32, 109, 32, 123, 32, 125], .str [], .int .i64 6, .int .i64 3]
theorem run_3_8 : gives true (call fns 3000 8 a_3_8 (deads gls ⟨1000, .nil⟩)) = true := by kernel_rfl
theorem leaf_3_8 : Known.Ok id Tryz.prog ⟨a_3_8_f, a_3_8, .bool true⟩ := known_of_run ok hix (n := 3000) (nx := 1000) (by decide) rfl run_3_8
def a_3_9_f : Nat := 8
def a_3_9 : List V := [.str [119, 97, 105, 116, 32, 109, 59], .str [], .int .i64 6, .int .i64 3]
theorem run_3_9 : gives true (call fns 3000 8 a_3_9 (deads gls ⟨1000, .nil⟩)) = true := by kernel_rfl
theorem leaf_3_9 : Known.Ok id Tryz.prog ⟨a_3_9_f, a_3_9, .bool true⟩ := known_of_run ok hix (n := 3000) (nx := 1000) (by decide) rfl run_3_9
end Go.Proofs.YtakahhnlbciicaaGreatDoor.Ai
