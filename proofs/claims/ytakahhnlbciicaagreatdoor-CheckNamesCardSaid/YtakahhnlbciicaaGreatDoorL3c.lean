/-
  Closed runs of functions, evaluated by the kernel; each is the program's. Printed by a program.
-/
import Derived.Test.YtakahhnlbciicaaGreatDoorOk
namespace Go.Proofs.YtakahhnlbciicaaGreatDoor.Ai
open Go Go.RowKit
set_option maxRecDepth 100000
def a_3_4_f : Nat := 8
def a_3_4 : List V := [.str [120, 91, 48, 93, 32, 61, 32, 49, 59], .str [], .int .i64 6, .int .i64 3]
theorem run_3_4 : gives true (call fns 3000 8 a_3_4 (deads gls ⟨1000, .nil⟩)) = true := by kernel_rfl
theorem leaf_3_4 : Known.Ok id Tryz.prog ⟨a_3_4_f, a_3_4, .bool true⟩ := known_of_run ok hix (n := 3000) (nx := 1000) (by decide) rfl run_3_4
def a_3_5_f : Nat := 8
def a_3_5 : List V := [.str [], .str [98, 32, 61, 32, 97, 59], .int .i64 5, .int .i64 6]
theorem run_3_5 : gives true (call fns 3000 8 a_3_5 (deads gls ⟨1000, .nil⟩)) = true := by kernel_rfl
theorem leaf_3_5 : Known.Ok id Tryz.prog ⟨a_3_5_f, a_3_5, .bool true⟩ := known_of_run ok hix (n := 3000) (nx := 1000) (by decide) rfl run_3_5
def a_3_6_f : Nat := 8
def a_3_6 : List V := [.str [120, 32, 61, 32, 113, 59], .str [], .int .i64 6, .int .i64 3]
theorem run_3_6 : gives true (call fns 3000 8 a_3_6 (deads gls ⟨1000, .nil⟩)) = true := by kernel_rfl
theorem leaf_3_6 : Known.Ok id Tryz.prog ⟨a_3_6_f, a_3_6, .bool true⟩ := known_of_run ok hix (n := 3000) (nx := 1000) (by decide) rfl run_3_6
end Go.Proofs.YtakahhnlbciicaaGreatDoor.Ai
