/-
  Of the 36 pairs of signs each run, evaluated by the kernel. Printed by a program.
-/
import Derived.Test.YtpcinbogdlhndaaDoorOk
namespace Go.Proofs.YtpcinbogdlhndaaDoor.Ai
open Go Go.RowKit
set_option maxRecDepth 100000
noncomputable def hp : H := deads gls ⟨1000, .nil⟩
def reg40 : IC := match f4.body with | .seq r _ => r | _ => .skip
def reg41 : IC := match f4.body with | .seq _ (.seq r _) => r | _ => .skip
def reg42 : IC := match f4.body with | .seq _ (.seq _ (.seq r _)) => r | _ => .skip
def rest4 : IC := match f4.body with | .seq _ (.seq _ (.seq _ r)) => r | _ => .skip
def fr4 (m n : Int) (a b c d e f : V) : Fr := [(10, f), (9, e), (8, d), (7, c), (6, b), (5, a), (4, .bool false), (0, .int .u8 m), (1, .int .u8 n)]
noncomputable def fin4 (x : Option (X × Fr × H)) : Bool := match x with
  | some (.norm, fr, _) => (match Fr.get fr 4 with | some (.bool true) => true | _ => false)
  | some (.ret, fr, _) => (match Fr.get fr 4 with | some (.bool true) => true | _ => false)
  | _ => false
def sgs : Nat → V
  | 0 => .str [124, 124]
  | 1 => .str [38, 38]
  | 2 => .str [43]
  | 3 => .str [45]
  | 4 => .str [42]
  | _ => .str [37]
def sgo : Nat → V
  | 0 => .int .i64 18
  | 1 => .int .i64 17
  | 2 => .int .i64 6
  | 3 => .int .i64 7
  | 4 => .int .i64 8
  | _ => .int .i64 10
def sgl : Nat → V
  | 0 => .int .i64 1
  | 1 => .int .i64 2
  | 2 => .int .i64 4
  | 3 => .int .i64 4
  | 4 => .int .i64 5
  | _ => .int .i64 5
def sgv (i : Nat) : V := .tup [sgs i, sgo i, sgl i]
noncomputable def signOk (m : Nat) : Bool := ends (sgv (m % 6)) hp (call fns 3000 8 [.int .u8 (Int.ofNat m)] hp)
theorem sign_all : (List.range 256).all signOk = true := by kernel_rfl
theorem pair_0_0 (m n : Int) : fin4 (exec (call fns 3000) 3000 rest4 (fr4 m n (sgs 0) (sgo 0) (sgl 0) (sgs 0) (sgo 0) (sgl 0)) hp) = true := by kernel_rfl
theorem pair_0_1 (m n : Int) : fin4 (exec (call fns 3000) 3000 rest4 (fr4 m n (sgs 0) (sgo 0) (sgl 0) (sgs 1) (sgo 1) (sgl 1)) hp) = true := by kernel_rfl
theorem pair_0_2 (m n : Int) : fin4 (exec (call fns 3000) 3000 rest4 (fr4 m n (sgs 0) (sgo 0) (sgl 0) (sgs 2) (sgo 2) (sgl 2)) hp) = true := by kernel_rfl
theorem pair_0_3 (m n : Int) : fin4 (exec (call fns 3000) 3000 rest4 (fr4 m n (sgs 0) (sgo 0) (sgl 0) (sgs 3) (sgo 3) (sgl 3)) hp) = true := by kernel_rfl
theorem pair_0_4 (m n : Int) : fin4 (exec (call fns 3000) 3000 rest4 (fr4 m n (sgs 0) (sgo 0) (sgl 0) (sgs 4) (sgo 4) (sgl 4)) hp) = true := by kernel_rfl
theorem pair_0_5 (m n : Int) : fin4 (exec (call fns 3000) 3000 rest4 (fr4 m n (sgs 0) (sgo 0) (sgl 0) (sgs 5) (sgo 5) (sgl 5)) hp) = true := by kernel_rfl
theorem pair_1_0 (m n : Int) : fin4 (exec (call fns 3000) 3000 rest4 (fr4 m n (sgs 1) (sgo 1) (sgl 1) (sgs 0) (sgo 0) (sgl 0)) hp) = true := by kernel_rfl
theorem pair_1_1 (m n : Int) : fin4 (exec (call fns 3000) 3000 rest4 (fr4 m n (sgs 1) (sgo 1) (sgl 1) (sgs 1) (sgo 1) (sgl 1)) hp) = true := by kernel_rfl
theorem pair_1_2 (m n : Int) : fin4 (exec (call fns 3000) 3000 rest4 (fr4 m n (sgs 1) (sgo 1) (sgl 1) (sgs 2) (sgo 2) (sgl 2)) hp) = true := by kernel_rfl
theorem pair_1_3 (m n : Int) : fin4 (exec (call fns 3000) 3000 rest4 (fr4 m n (sgs 1) (sgo 1) (sgl 1) (sgs 3) (sgo 3) (sgl 3)) hp) = true := by kernel_rfl
theorem pair_1_4 (m n : Int) : fin4 (exec (call fns 3000) 3000 rest4 (fr4 m n (sgs 1) (sgo 1) (sgl 1) (sgs 4) (sgo 4) (sgl 4)) hp) = true := by kernel_rfl
theorem pair_1_5 (m n : Int) : fin4 (exec (call fns 3000) 3000 rest4 (fr4 m n (sgs 1) (sgo 1) (sgl 1) (sgs 5) (sgo 5) (sgl 5)) hp) = true := by kernel_rfl
theorem pair_2_0 (m n : Int) : fin4 (exec (call fns 3000) 3000 rest4 (fr4 m n (sgs 2) (sgo 2) (sgl 2) (sgs 0) (sgo 0) (sgl 0)) hp) = true := by kernel_rfl
theorem pair_2_1 (m n : Int) : fin4 (exec (call fns 3000) 3000 rest4 (fr4 m n (sgs 2) (sgo 2) (sgl 2) (sgs 1) (sgo 1) (sgl 1)) hp) = true := by kernel_rfl
theorem pair_2_2 (m n : Int) : fin4 (exec (call fns 3000) 3000 rest4 (fr4 m n (sgs 2) (sgo 2) (sgl 2) (sgs 2) (sgo 2) (sgl 2)) hp) = true := by kernel_rfl
theorem pair_2_3 (m n : Int) : fin4 (exec (call fns 3000) 3000 rest4 (fr4 m n (sgs 2) (sgo 2) (sgl 2) (sgs 3) (sgo 3) (sgl 3)) hp) = true := by kernel_rfl
theorem pair_2_4 (m n : Int) : fin4 (exec (call fns 3000) 3000 rest4 (fr4 m n (sgs 2) (sgo 2) (sgl 2) (sgs 4) (sgo 4) (sgl 4)) hp) = true := by kernel_rfl
theorem pair_2_5 (m n : Int) : fin4 (exec (call fns 3000) 3000 rest4 (fr4 m n (sgs 2) (sgo 2) (sgl 2) (sgs 5) (sgo 5) (sgl 5)) hp) = true := by kernel_rfl
theorem pair_3_0 (m n : Int) : fin4 (exec (call fns 3000) 3000 rest4 (fr4 m n (sgs 3) (sgo 3) (sgl 3) (sgs 0) (sgo 0) (sgl 0)) hp) = true := by kernel_rfl
theorem pair_3_1 (m n : Int) : fin4 (exec (call fns 3000) 3000 rest4 (fr4 m n (sgs 3) (sgo 3) (sgl 3) (sgs 1) (sgo 1) (sgl 1)) hp) = true := by kernel_rfl
theorem pair_3_2 (m n : Int) : fin4 (exec (call fns 3000) 3000 rest4 (fr4 m n (sgs 3) (sgo 3) (sgl 3) (sgs 2) (sgo 2) (sgl 2)) hp) = true := by kernel_rfl
theorem pair_3_3 (m n : Int) : fin4 (exec (call fns 3000) 3000 rest4 (fr4 m n (sgs 3) (sgo 3) (sgl 3) (sgs 3) (sgo 3) (sgl 3)) hp) = true := by kernel_rfl
theorem pair_3_4 (m n : Int) : fin4 (exec (call fns 3000) 3000 rest4 (fr4 m n (sgs 3) (sgo 3) (sgl 3) (sgs 4) (sgo 4) (sgl 4)) hp) = true := by kernel_rfl
theorem pair_3_5 (m n : Int) : fin4 (exec (call fns 3000) 3000 rest4 (fr4 m n (sgs 3) (sgo 3) (sgl 3) (sgs 5) (sgo 5) (sgl 5)) hp) = true := by kernel_rfl
theorem pair_4_0 (m n : Int) : fin4 (exec (call fns 3000) 3000 rest4 (fr4 m n (sgs 4) (sgo 4) (sgl 4) (sgs 0) (sgo 0) (sgl 0)) hp) = true := by kernel_rfl
theorem pair_4_1 (m n : Int) : fin4 (exec (call fns 3000) 3000 rest4 (fr4 m n (sgs 4) (sgo 4) (sgl 4) (sgs 1) (sgo 1) (sgl 1)) hp) = true := by kernel_rfl
theorem pair_4_2 (m n : Int) : fin4 (exec (call fns 3000) 3000 rest4 (fr4 m n (sgs 4) (sgo 4) (sgl 4) (sgs 2) (sgo 2) (sgl 2)) hp) = true := by kernel_rfl
theorem pair_4_3 (m n : Int) : fin4 (exec (call fns 3000) 3000 rest4 (fr4 m n (sgs 4) (sgo 4) (sgl 4) (sgs 3) (sgo 3) (sgl 3)) hp) = true := by kernel_rfl
theorem pair_4_4 (m n : Int) : fin4 (exec (call fns 3000) 3000 rest4 (fr4 m n (sgs 4) (sgo 4) (sgl 4) (sgs 4) (sgo 4) (sgl 4)) hp) = true := by kernel_rfl
theorem pair_4_5 (m n : Int) : fin4 (exec (call fns 3000) 3000 rest4 (fr4 m n (sgs 4) (sgo 4) (sgl 4) (sgs 5) (sgo 5) (sgl 5)) hp) = true := by kernel_rfl
theorem pair_5_0 (m n : Int) : fin4 (exec (call fns 3000) 3000 rest4 (fr4 m n (sgs 5) (sgo 5) (sgl 5) (sgs 0) (sgo 0) (sgl 0)) hp) = true := by kernel_rfl
theorem pair_5_1 (m n : Int) : fin4 (exec (call fns 3000) 3000 rest4 (fr4 m n (sgs 5) (sgo 5) (sgl 5) (sgs 1) (sgo 1) (sgl 1)) hp) = true := by kernel_rfl
theorem pair_5_2 (m n : Int) : fin4 (exec (call fns 3000) 3000 rest4 (fr4 m n (sgs 5) (sgo 5) (sgl 5) (sgs 2) (sgo 2) (sgl 2)) hp) = true := by kernel_rfl
theorem pair_5_3 (m n : Int) : fin4 (exec (call fns 3000) 3000 rest4 (fr4 m n (sgs 5) (sgo 5) (sgl 5) (sgs 3) (sgo 3) (sgl 3)) hp) = true := by kernel_rfl
theorem pair_5_4 (m n : Int) : fin4 (exec (call fns 3000) 3000 rest4 (fr4 m n (sgs 5) (sgo 5) (sgl 5) (sgs 4) (sgo 4) (sgl 4)) hp) = true := by kernel_rfl
theorem pair_5_5 (m n : Int) : fin4 (exec (call fns 3000) 3000 rest4 (fr4 m n (sgs 5) (sgo 5) (sgl 5) (sgs 5) (sgo 5) (sgl 5)) hp) = true := by kernel_rfl
theorem pairs4 (i j : Nat) (hi : i < 6) (hj : j < 6) (m n : Int) : fin4 (exec (call fns 3000) 3000 rest4 (fr4 m n (sgs i) (sgo i) (sgl i) (sgs j) (sgo j) (sgl j)) hp) = true := by
  match i, j with
  | 0, 0 => exact pair_0_0 m n
  | 0, 1 => exact pair_0_1 m n
  | 0, 2 => exact pair_0_2 m n
  | 0, 3 => exact pair_0_3 m n
  | 0, 4 => exact pair_0_4 m n
  | 0, 5 => exact pair_0_5 m n
  | 1, 0 => exact pair_1_0 m n
  | 1, 1 => exact pair_1_1 m n
  | 1, 2 => exact pair_1_2 m n
  | 1, 3 => exact pair_1_3 m n
  | 1, 4 => exact pair_1_4 m n
  | 1, 5 => exact pair_1_5 m n
  | 2, 0 => exact pair_2_0 m n
  | 2, 1 => exact pair_2_1 m n
  | 2, 2 => exact pair_2_2 m n
  | 2, 3 => exact pair_2_3 m n
  | 2, 4 => exact pair_2_4 m n
  | 2, 5 => exact pair_2_5 m n
  | 3, 0 => exact pair_3_0 m n
  | 3, 1 => exact pair_3_1 m n
  | 3, 2 => exact pair_3_2 m n
  | 3, 3 => exact pair_3_3 m n
  | 3, 4 => exact pair_3_4 m n
  | 3, 5 => exact pair_3_5 m n
  | 4, 0 => exact pair_4_0 m n
  | 4, 1 => exact pair_4_1 m n
  | 4, 2 => exact pair_4_2 m n
  | 4, 3 => exact pair_4_3 m n
  | 4, 4 => exact pair_4_4 m n
  | 4, 5 => exact pair_4_5 m n
  | 5, 0 => exact pair_5_0 m n
  | 5, 1 => exact pair_5_1 m n
  | 5, 2 => exact pair_5_2 m n
  | 5, 3 => exact pair_5_3 m n
  | 5, 4 => exact pair_5_4 m n
  | 5, 5 => exact pair_5_5 m n
  | i + 6, _ => omega
  | _, j + 6 => omega
end Go.Proofs.YtpcinbogdlhndaaDoor.Ai
