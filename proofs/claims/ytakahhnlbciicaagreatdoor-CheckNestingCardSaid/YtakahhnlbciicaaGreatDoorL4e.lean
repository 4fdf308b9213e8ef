/-
  Closed runs of functions, evaluated by the kernel; each is the program's. Printed by a program.
-/
import Derived.Test.YtakahhnlbciicaaGreatDoorOk
namespace Go.Proofs.YtakahhnlbciicaaGreatDoor.Ai
open Go Go.RowKit
set_option maxRecDepth 100000
def a_4_10_f : Nat := 8
def a_4_10 : List V := [.str [], .str [97, 116, 111, 109, 105, 99, 32, 123, 32, 106, 111, 105, 110, 32, 119, 59, 32, 125], .int .i64 7, .int .i64 6]
theorem run_4_10 : gives true (call fns 3000 8 a_4_10 (deads gls ⟨1000, .nil⟩)) = true := by kernel_rfl
theorem leaf_4_10 : Known.Ok id Tryz.prog ⟨a_4_10_f, a_4_10, .bool true⟩ := known_of_run ok hix (n := 3000) (nx := 1000) (by decide) rfl run_4_10
def a_4_11_f : Nat := 8
def a_4_11 : List V := [.str [116, 114, 97, 110, 115, 97, 99, 116, 105, 111, 110, 32, 123, 32, 103, 101, 116, 32, 97, 32, 102, 59, 32, 125], .str [], .int .i64 7, .int .i64 3]
theorem run_4_11 : gives true (call fns 3000 8 a_4_11 (deads gls ⟨1000, .nil⟩)) = true := by kernel_rfl
theorem leaf_4_11 : Known.Ok id Tryz.prog ⟨a_4_11_f, a_4_11, .bool true⟩ := known_of_run ok hix (n := 3000) (nx := 1000) (by decide) rfl run_4_11
end Go.Proofs.YtakahhnlbciicaaGreatDoor.Ai
