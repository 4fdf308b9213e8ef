/-
  Closed runs of functions, evaluated by the kernel; each is the program's. Printed by a program.
-/
import Derived.Test.YtakahhnlbciicaaGreatDoorOk
namespace Go.Proofs.YtakahhnlbciicaaGreatDoor.Ai
open Go Go.RowKit
set_option maxRecDepth 100000
def a_5_1_f : Nat := 8
def a_5_1 : List V := [.str [115, 112, 97, 119, 110, 32, 117, 59], .str [115, 112, 97, 119, 110, 32, 117, 59], .int .i64 7, .int .i64 6]
theorem run_5_1 : gives true (call fns 3000 8 a_5_1 (deads gls ⟨1000, .nil⟩)) = true := by kernel_rfl
theorem leaf_5_1 : Known.Ok id Tryz.prog ⟨a_5_1_f, a_5_1, .bool true⟩ := known_of_run ok hix (n := 3000) (nx := 1000) (by decide) rfl run_5_1
def a_5_2_f : Nat := 8
def a_5_2 : List V := [.str [115, 112, 97, 119, 110, 32, 119, 59], .str [115, 112, 97, 119, 110, 32, 119, 59], .int .i64 8, .int .i64 6]
theorem run_5_2 : gives true (call fns 3000 8 a_5_2 (deads gls ⟨1000, .nil⟩)) = true := by kernel_rfl
theorem leaf_5_2 : Known.Ok id Tryz.prog ⟨a_5_2_f, a_5_2, .bool true⟩ := known_of_run ok hix (n := 3000) (nx := 1000) (by decide) rfl run_5_2
def a_5_3_f : Nat := 8
def a_5_3 : List V := [.str [115, 112, 97, 119, 110, 32, 116, 59], .str [], .int .i64 7, .int .i64 3]
theorem run_5_3 : gives true (call fns 3000 8 a_5_3 (deads gls ⟨1000, .nil⟩)) = true := by kernel_rfl
theorem leaf_5_3 : Known.Ok id Tryz.prog ⟨a_5_3_f, a_5_3, .bool true⟩ := known_of_run ok hix (n := 3000) (nx := 1000) (by decide) rfl run_5_3
end Go.Proofs.YtakahhnlbciicaaGreatDoor.Ai
