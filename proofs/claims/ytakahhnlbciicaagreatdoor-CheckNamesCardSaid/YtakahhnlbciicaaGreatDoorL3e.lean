/-
  Closed runs of functions, evaluated by the kernel; each is the program's. Printed by a program.
-/
import Derived.Test.YtakahhnlbciicaaGreatDoorOk
namespace Go.Proofs.YtakahhnlbciicaaGreatDoor.Ai
open Go Go.RowKit
set_option maxRecDepth 100000
def a_3_10_f : Nat := 8
def a_3_10 : List V := [.str [103, 101, 116, 32, 120, 32, 102, 59], .str [], .int .i64 6, .int .i64 3]
theorem run_3_10 : gives true (call fns 3000 8 a_3_10 (deads gls ⟨1000, .nil⟩)) = true := by kernel_rfl
theorem leaf_3_10 : Known.Ok id Tryz.prog ⟨a_3_10_f, a_3_10, .bool true⟩ := known_of_run ok hix (n := 3000) (nx := 1000) (by decide) rfl run_3_10
def a_3_11_f : Nat := 8
def a_3_11 : List V := [.str [103, 101, 116, 32, 97, 32, 109, 59], .str [], .int .i64 6, .int .i64 3]
theorem run_3_11 : gives true (call fns 3000 8 a_3_11 (deads gls ⟨1000, .nil⟩)) = true := by kernel_rfl
theorem leaf_3_11 : Known.Ok id Tryz.prog ⟨a_3_11_f, a_3_11, .bool true⟩ := known_of_run ok hix (n := 3000) (nx := 1000) (by decide) rfl run_3_11
def a_3_12_f : Nat := 8
def a_3_12 : List V := [.str [108, 111, 99, 107, 32, 97, 32, 123, 32, 125], .str [], .int .i64 6, .int .i64 3]
theorem run_3_12 : gives true (call fns 3000 8 a_3_12 (deads gls ⟨1000, .nil⟩)) = true := by kernel_rfl
theorem leaf_3_12 : Known.Ok id Tryz.prog ⟨a_3_12_f, a_3_12, .bool true⟩ := known_of_run ok hix (n := 3000) (nx := 1000) (by decide) rfl run_3_12
end Go.Proofs.YtakahhnlbciicaaGreatDoor.Ai
