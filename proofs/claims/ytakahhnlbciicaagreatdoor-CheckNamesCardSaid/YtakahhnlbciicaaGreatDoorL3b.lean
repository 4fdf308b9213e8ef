/-
  Closed runs of functions, evaluated by the kernel; each is the program's. Printed by a program.
-/
import Derived.Test.YtakahhnlbciicaaGreatDoorOk
namespace Go.Proofs.YtakahhnlbciicaaGreatDoor.Ai
open Go Go.RowKit
set_option maxRecDepth 100000
def a_3_1_f : Nat := 8
def a_3_1 : List V := [.str [121, 32, 61, 32, 49, 59], .str [], .int .i64 5, .int .i64 3]
theorem run_3_1 : gives true (call fns 3000 8 a_3_1 (deads gls ⟨1000, .nil⟩)) = true := by kernel_rfl
theorem leaf_3_1 : Known.Ok id Tryz.prog ⟨a_3_1_f, a_3_1, .bool true⟩ := known_of_run ok hix (n := 3000) (nx := 1000) (by decide) rfl run_3_1
def a_3_2_f : Nat := 8
def a_3_2 : List V := [.str [109, 32, 61, 32, 49, 59], .str [], .int .i64 6, .int .i64 3]
theorem run_3_2 : gives true (call fns 3000 8 a_3_2 (deads gls ⟨1000, .nil⟩)) = true := by kernel_rfl
theorem leaf_3_2 : Known.Ok id Tryz.prog ⟨a_3_2_f, a_3_2, .bool true⟩ := known_of_run ok hix (n := 3000) (nx := 1000) (by decide) rfl run_3_2
def a_3_3_f : Nat := 8
def a_3_3 : List V := [.str [113, 32, 61, 32, 49, 59], .str [], .int .i64 6, .int .i64 3]
theorem run_3_3 : gives true (call fns 3000 8 a_3_3 (deads gls ⟨1000, .nil⟩)) = true := by kernel_rfl
theorem leaf_3_3 : Known.Ok id Tryz.prog ⟨a_3_3_f, a_3_3, .bool true⟩ := known_of_run ok hix (n := 3000) (nx := 1000) (by decide) rfl run_3_3
end Go.Proofs.YtakahhnlbciicaaGreatDoor.Ai
