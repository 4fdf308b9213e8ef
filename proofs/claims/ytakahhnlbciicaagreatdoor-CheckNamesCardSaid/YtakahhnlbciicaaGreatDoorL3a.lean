/-
  Closed runs of functions, evaluated by the kernel; each is the program's. Printed by a program.
-/
import Derived.Test.YtakahhnlbciicaaGreatDoorL3ax
namespace Go.Proofs.YtakahhnlbciicaaGreatDoor.Ai
open Go Go.RowKit
set_option maxRecDepth 100000
def a_3_0_f : Nat := 7
theorem pieces_3_0 : ∀ x, x ∈ [c_3_0] → x.Ok fns := by
  intro x hx
  cases List.mem_singleton.1 hx
  exact piece_3_0
theorem run_3_0 : gives true (call1 (Cut.orf [c_3_0] (call fns 3000)) 3000 f7 a_3_0 (deads gls ⟨1000, .nil⟩)) = true := by kernel_rfl
theorem leaf_3_0 : Known.Ok id Tryz.prog ⟨a_3_0_f, a_3_0, .bool true⟩ := known_of_cut ok hix pieces_3_0 (F := f7) rfl (n := 3000) (nx := 1000) (by decide) rfl run_3_0
end Go.Proofs.YtakahhnlbciicaaGreatDoor.Ai
