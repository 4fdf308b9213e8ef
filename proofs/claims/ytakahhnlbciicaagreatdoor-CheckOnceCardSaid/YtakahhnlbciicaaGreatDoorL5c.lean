/-
  Closed runs of functions, evaluated by the kernel; each is the program's. Printed by a program.
-/
import Derived.Test.YtakahhnlbciicaaGreatDoorOk
namespace Go.Proofs.YtakahhnlbciicaaGreatDoor.Ai
open Go Go.RowKit
set_option maxRecDepth 100000
def a_5_4_f : Nat := 8
def a_5_4 : List V := [.str [], .str [115, 112, 97, 119, 110, 32, 116, 59], .int .i64 7, .int .i64 6]
theorem run_5_4 : gives true (call fns 3000 8 a_5_4 (deads gls ⟨1000, .nil⟩)) = true := by kernel_rfl
theorem leaf_5_4 : Known.Ok id Tryz.prog ⟨a_5_4_f, a_5_4, .bool true⟩ := known_of_run ok hix (n := 3000) (nx := 1000) (by decide) rfl run_5_4
def a_5_5_f : Nat := 8
def a_5_5 : List V := [.str [119, 104, 105, 108, 101, 32, 120, 32, 123, 32, 115, 112, 97, 119, 110, 32, 117, 59, 32, 125], .str [], .int .i64 7, .int .i64 3]
theorem run_5_5 : gives true (call fns 3000 8 a_5_5 (deads gls ⟨1000, .nil⟩)) = true := by kernel_rfl
theorem leaf_5_5 : Known.Ok id Tryz.prog ⟨a_5_5_f, a_5_5, .bool true⟩ := known_of_run ok hix (n := 3000) (nx := 1000) (by decide) rfl run_5_5
def a_5_6_f : Nat := 8
def a_5_6 : List V := [.str [115, 101, 116, 32, 102, 32, 49, 59, 32, 115, 101, 116, 32, 102, 32, 50, 59], .str [], .int .i64 8, .int .i64 3]
theorem run_5_6 : gives true (call fns 3000 8 a_5_6 (deads gls ⟨1000, .nil⟩)) = true := by kernel_rfl
theorem leaf_5_6 : Known.Ok id Tryz.prog ⟨a_5_6_f, a_5_6, .bool true⟩ := known_of_run ok hix (n := 3000) (nx := 1000) (by decide) rfl run_5_6
end Go.Proofs.YtakahhnlbciicaaGreatDoor.Ai
