/-
  Closed runs of functions, evaluated by the kernel; each is the program's. Printed by a program.
-/
import Derived.Test.YtakahhnlbciicaaGreatDoorOk
namespace Go.Proofs.YtakahhnlbciicaaGreatDoor.Ai
open Go Go.RowKit
set_option maxRecDepth 100000
def a_4_7_f : Nat := 8
def a_4_7 : List V := [.str [116, 114, 97, 110, 115, 97, 99, 116, 105, 111, 110, 32, 123, 32, 108, 111, 99, 107, 32, 109, 32, 123, 32, 125, 32, 125], .str [], .int .i64 7, .int .i64 3]
theorem run_4_7 : gives true (call fns 3000 8 a_4_7 (deads gls ⟨1000, .nil⟩)) = true := by kernel_rfl
theorem leaf_4_7 : Known.Ok id Tryz.prog ⟨a_4_7_f, a_4_7, .bool true⟩ := known_of_run ok hix (n := 3000) (nx := 1000) (by decide) rfl run_4_7
def a_4_8_f : Nat := 8
def a_4_8 : List V := [.str [116, 114, 97, 110, 115, 97, 99, 116, 105, 111, 110, 32, 123, 32, 116, 114, 97, 110, 115, 97, 99, 116, 105, 111, 110, 32, 123, 32, 125, 32, 125], .str [], .int .i64 7, .int .i64 3]
theorem run_4_8 : gives true (call fns 3000 8 a_4_8 (deads gls ⟨1000, .nil⟩)) = true := by kernel_rfl
theorem leaf_4_8 : Known.Ok id Tryz.prog ⟨a_4_8_f, a_4_8, .bool true⟩ := known_of_run ok hix (n := 3000) (nx := 1000) (by decide) rfl run_4_8
def a_4_9_f : Nat := 8
def a_4_9 : List V := [.str [97, 116, 111, 109, 105, 99, 32, 123, 32, 97, 116, 111, 109, 105, 99, 32, 123, 32, 125, 32, 125], .str [], .int .i64 7, .int .i64 3]
theorem run_4_9 : gives true (call fns 3000 8 a_4_9 (deads gls ⟨1000, .nil⟩)) = true := by kernel_rfl
theorem leaf_4_9 : Known.Ok id Tryz.prog ⟨a_4_9_f, a_4_9, .bool true⟩ := known_of_run ok hix (n := 3000) (nx := 1000) (by decide) rfl run_4_9
end Go.Proofs.YtakahhnlbciicaaGreatDoor.Ai
