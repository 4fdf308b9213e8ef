/-
  Closed runs of functions, evaluated by the kernel; each is the program's. Printed by a program.
-/
import Derived.Test.YtakahhnlbciicaaGreatDoorL4cx
namespace Go.Proofs.YtakahhnlbciicaaGreatDoor.Ai
open Go Go.RowKit
set_option maxRecDepth 100000
def a_4_4_f : Nat := 8
def a_4_4 : List V := [.str [108, 111, 99, 107, 32, 110, 32, 123, 32, 110, 111, 116, 105, 102, 121, 32, 99, 59, 32, 125], .str [], .int .i64 7, .int .i64 3]
theorem run_4_4 : gives true (call fns 3000 8 a_4_4 (deads gls ⟨1000, .nil⟩)) = true := by kernel_rfl
theorem leaf_4_4 : Known.Ok id Tryz.prog ⟨a_4_4_f, a_4_4, .bool true⟩ := known_of_run ok hix (n := 3000) (nx := 1000) (by decide) rfl run_4_4
def a_4_5_f : Nat := 8
def a_4_5 : List V := [.str [97, 116, 111, 109, 105, 99, 32, 123, 32, 108, 111, 99, 107, 32, 109, 32, 123, 32, 119, 97, 105, 116, 32, 99, 59, 32, 125, 32, 125], .str [], .int .i64 7, .int .i64 3]
theorem run_4_5 : gives true (call fns 3000 8 a_4_5 (deads gls ⟨1000, .nil⟩)) = true := by kernel_rfl
theorem leaf_4_5 : Known.Ok id Tryz.prog ⟨a_4_5_f, a_4_5, .bool true⟩ := known_of_run ok hix (n := 3000) (nx := 1000) (by decide) rfl run_4_5
def a_4_6_f : Nat := 7
theorem pieces_4_6 : ∀ x, x ∈ [c_4_6] → x.Ok fns := by
  intro x hx
  cases List.mem_singleton.1 hx
  exact piece_4_6
theorem run_4_6 : gives true (call1 (Cut.orf [c_4_6] (call fns 3000)) 3000 f7 a_4_6 (deads gls ⟨1000, .nil⟩)) = true := by kernel_rfl
theorem leaf_4_6 : Known.Ok id Tryz.prog ⟨a_4_6_f, a_4_6, .bool true⟩ := known_of_cut ok hix pieces_4_6 (F := f7) rfl (n := 3000) (nx := 1000) (by decide) rfl run_4_6
end Go.Proofs.YtakahhnlbciicaaGreatDoor.Ai
