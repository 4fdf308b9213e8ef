/-
  Closed runs of functions, evaluated by the kernel; each is the program's. Printed by a program.
-/
import Derived.Test.YtakahhnlbciicaaGreatDoorOk
namespace Go.Proofs.YtakahhnlbciicaaGreatDoor.Ai
open Go Go.RowKit
set_option maxRecDepth 100000
def a_4_1_f : Nat := 8
def a_4_1 : List V := [.str [108, 111, 99, 107, 32, 109, 32, 123, 32, 108, 111, 99, 107, 32, 109, 32, 123, 32, 125, 32, 125], .str [], .int .i64 7, .int .i64 3]
theorem run_4_1 : gives true (call fns 3000 8 a_4_1 (deads gls ⟨1000, .nil⟩)) = true := by kernel_rfl
theorem leaf_4_1 : Known.Ok id Tryz.prog ⟨a_4_1_f, a_4_1, .bool true⟩ := known_of_run ok hix (n := 3000) (nx := 1000) (by decide) rfl run_4_1
def a_4_2_f : Nat := 8
def a_4_2 : List V := [.str [114, 101, 97, 100, 32, 114, 32, 123, 32, 119, 114, 105, 116, 101, 32, 114, 32, 123, 32, 125, 32, 125], .str [], .int .i64 7, .int .i64 3]
theorem run_4_2 : gives true (call fns 3000 8 a_4_2 (deads gls ⟨1000, .nil⟩)) = true := by kernel_rfl
theorem leaf_4_2 : Known.Ok id Tryz.prog ⟨a_4_2_f, a_4_2, .bool true⟩ := known_of_run ok hix (n := 3000) (nx := 1000) (by decide) rfl run_4_2
def a_4_3_f : Nat := 8
def a_4_3 : List V := [.str [119, 97, 105, 116, 32, 99, 59], .str [], .int .i64 7, .int .i64 3]
theorem run_4_3 : gives true (call fns 3000 8 a_4_3 (deads gls ⟨1000, .nil⟩)) = true := by kernel_rfl
theorem leaf_4_3 : Known.Ok id Tryz.prog ⟨a_4_3_f, a_4_3, .bool true⟩ := known_of_run ok hix (n := 3000) (nx := 1000) (by decide) rfl run_4_3
end Go.Proofs.YtakahhnlbciicaaGreatDoor.Ai
