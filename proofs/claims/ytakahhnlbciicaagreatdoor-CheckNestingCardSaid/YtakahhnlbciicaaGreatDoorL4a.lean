/-
  Closed runs of functions, evaluated by the kernel; each is the program's. Printed by a program.
-/
import Derived.Test.YtakahhnlbciicaaGreatDoorL4ax
namespace Go.Proofs.YtakahhnlbciicaaGreatDoor.Ai
open Go Go.RowKit
set_option maxRecDepth 100000
def a_4_0_f : Nat := 7
theorem pieces_4_0 : ∀ x, x ∈ [c_4_0] → x.Ok fns := by
  intro x hx
  cases List.mem_singleton.1 hx
  exact piece_4_0
theorem run_4_0 : gives true (call1 (Cut.orf [c_4_0] (call fns 3000)) 3000 f7 a_4_0 (deads gls ⟨1000, .nil⟩)) = true := by kernel_rfl
theorem leaf_4_0 : Known.Ok id Tryz.prog ⟨a_4_0_f, a_4_0, .bool true⟩ := known_of_cut ok hix pieces_4_0 (F := f7) rfl (n := 3000) (nx := 1000) (by decide) rfl run_4_0
end Go.Proofs.YtakahhnlbciicaaGreatDoor.Ai
