/-
  The two texts of an instruction, run by the evaluator with numbers that are not known. Printed by a program.
-/
import Derived.Test.YtpcinbogdlhndaaDoorAiE
import Derived.Test.YtpcinbogdlhndaaDoorOk
namespace Go.Proofs.YtpcinbogdlhndaaDoor.Ai
open Go Go.RowKit
set_option maxRecDepth 100000
def fnsT : Nat → Option Fun
  | 3 => some f3
  | 6 => some f6
  | 7 => some f7
  | _ => none
theorem okT (f : Nat) (F : Fun) (h : fnsT f = some F) : okFun id gls (some 78) Tryd.prog f F = true := by
  unfold fnsT at h
  split at h
  · cases h; exact ok_3
  · cases h; exact ok_6
  · cases h; exact ok_7
  · cases h
def words : List (List Nat) := [[99, 111, 110, 115, 116], [109, 111, 118, 101], [117, 110, 97, 114, 121], [98, 105, 110, 97, 114, 121], [106, 117, 109, 112], [108, 111, 97, 100], [108, 111, 97, 100, 97, 116], [115, 116, 111, 114, 101], [115, 116, 111, 114, 101, 97, 116], [98, 114, 97, 110, 99, 104], [97, 99, 113, 117, 105, 114, 101], [114, 101, 108, 101, 97, 115, 101], [114, 101, 97, 100, 97, 99, 113, 117, 105, 114, 101], [114, 101, 97, 100, 114, 101, 108, 101, 97, 115, 101], [119, 114, 105, 116, 101, 97, 99, 113, 117, 105, 114, 101], [119, 114, 105, 116, 101, 114, 101, 108, 101, 97, 115, 101], [116, 120, 98, 101, 103, 105, 110], [116, 120, 101, 110, 100], [97, 116, 111, 109, 105, 99, 98, 101, 103, 105, 110], [97, 116, 111, 109, 105, 99, 101, 110, 100], [119, 97, 105, 116], [110, 111, 116, 105, 102, 121], [110, 111, 116, 105, 102, 121, 97, 108, 108], [115, 112, 97, 119, 110], [106, 111, 105, 110], [115, 101, 116], [103, 101, 116], [101, 110, 100]]
def wordsV : List V := [.str [99, 111, 110, 115, 116], .str [109, 111, 118, 101], .str [117, 110, 97, 114, 121], .str [98, 105, 110, 97, 114, 121], .str [106, 117, 109, 112], .str [108, 111, 97, 100], .str [108, 111, 97, 100, 97, 116], .str [115, 116, 111, 114, 101], .str [115, 116, 111, 114, 101, 97, 116], .str [98, 114, 97, 110, 99, 104], .str [97, 99, 113, 117, 105, 114, 101], .str [114, 101, 108, 101, 97, 115, 101], .str [114, 101, 97, 100, 97, 99, 113, 117, 105, 114, 101], .str [114, 101, 97, 100, 114, 101, 108, 101, 97, 115, 101], .str [119, 114, 105, 116, 101, 97, 99, 113, 117, 105, 114, 101], .str [119, 114, 105, 116, 101, 114, 101, 108, 101, 97, 115, 101], .str [116, 120, 98, 101, 103, 105, 110], .str [116, 120, 101, 110, 100], .str [97, 116, 111, 109, 105, 99, 98, 101, 103, 105, 110], .str [97, 116, 111, 109, 105, 99, 101, 110, 100], .str [119, 97, 105, 116], .str [110, 111, 116, 105, 102, 121], .str [110, 111, 116, 105, 102, 121, 97, 108, 108], .str [115, 112, 97, 119, 110], .str [106, 111, 105, 110], .str [115, 101, 116], .str [103, 101, 116], .str [101, 110, 100]]
noncomputable def hT : H := lays [⟨0, [.sl true wordsV], 1, 1⟩] (deads gls ⟨1000, .nil⟩)
def ins (op A B C N s : Int) : V := .agg [.int .i64 op, .int .i64 A, .int .i64 B, .int .i64 C, .int .i64 N, .int .i64 s]
def lt62 (l : List Nat) : Prop := l.length < 2 ^ 62
/-- What the run comes to: the two texts are alike, and what is joined is not too long. -/
def E (w : List Nat) (i : V) (A B C N : Int) : Prop :=
  (((((w ++ ([32] ++ dec A)) ++ ([32] ++ dec B)) ++ ([32] ++ dec C)) ++ [32]) ++ dec N == (((((((w ++ [32]) ++ dec A) ++ [32]) ++ dec B) ++ [32]) ++ dec C) ++ [32]) ++ dec N) = true ∧
  (some (Blk.row [i] 6 .rw) = some (Blk.row [i] 6 .rw) ∧ True) ∧
  (some (Blk.row [i] 6 .rw) = some (Blk.row [i] 6 .rw) ∧ some (Blk.row [i] 6 .rw) = some (Blk.row [i] 6 .rw) ∧ some (Blk.row [i] 6 .rw) = some (Blk.row [i] 6 .rw) ∧
    some (Blk.row [i] 6 .rw) = some (Blk.row [i] 6 .rw) ∧ some (Blk.row [i] 6 .rw) = some (Blk.row [i] 6 .rw) ∧ some (Blk.row [i] 6 .rw) = some (Blk.row [i] 6 .rw) ∧ True) ∧
  lt62 ((((((((w ++ [32]) ++ dec A) ++ [32]) ++ dec B) ++ [32]) ++ dec C) ++ [32]) ++ dec N) ∧
  lt62 (((((((w ++ [32]) ++ dec A) ++ [32]) ++ dec B) ++ [32]) ++ dec C) ++ [32]) ∧
  lt62 ((((((w ++ [32]) ++ dec A) ++ [32]) ++ dec B) ++ [32]) ++ dec C) ∧
  lt62 (((((w ++ [32]) ++ dec A) ++ [32]) ++ dec B) ++ [32]) ∧
  lt62 ((((w ++ [32]) ++ dec A) ++ [32]) ++ dec B) ∧
  lt62 (((w ++ [32]) ++ dec A) ++ [32]) ∧
  lt62 ((w ++ [32]) ++ dec A) ∧
  lt62 (w ++ [32]) ∧
  InI64 N ∧ InI64 C ∧ InI64 B ∧ InI64 A ∧
  lt62 (((((w ++ ([32] ++ dec A)) ++ ([32] ++ dec B)) ++ ([32] ++ dec C)) ++ [32]) ++ dec N) ∧
  InI64 N ∧
  lt62 ((((w ++ ([32] ++ dec A)) ++ ([32] ++ dec B)) ++ ([32] ++ dec C)) ++ [32]) ∧
  lt62 (((w ++ ([32] ++ dec A)) ++ ([32] ++ dec B)) ++ ([32] ++ dec C)) ∧
  lt62 ([32] ++ dec C) ∧ InI64 C ∧
  lt62 ((w ++ ([32] ++ dec A)) ++ ([32] ++ dec B)) ∧
  lt62 ([32] ++ dec B) ∧ InI64 B ∧
  lt62 (w ++ ([32] ++ dec A)) ∧
  lt62 ([32] ++ dec A) ∧ InI64 A ∧ True
theorem E_holds (w : List Nat) (i : V) (A B C N : Int) (hw : w.length ≤ 20) (hA : InI64 A) (hB : InI64 B) (hC : InI64 C) (hN : InI64 N) : E w i A B C N := by
  have a := dec_length A hA
  have b := dec_length B hB
  have c := dec_length C hC
  have n := dec_length N hN
  unfold E lt62
  refine ⟨?_, ⟨rfl, trivial⟩, ⟨rfl, rfl, rfl, rfl, rfl, rfl, trivial⟩, ?_, ?_, ?_, ?_, ?_, ?_, ?_, ?_, hN, hC, hB, hA, ?_, hN, ?_, ?_, ?_, hC, ?_, ?_, hB, ?_, ?_, hA, trivial⟩
  · simp [List.append_assoc]
  all_goals
    simp only [List.length_append, List.length_cons, List.length_nil]
    omega
theorem tx_1 (A B C N s : Int) : holdsU (callU (decU 12 13) fnsT 20 3 [ins 1 A B C N s] hT) = E [99, 111, 110, 115, 116] (ins 1 A B C N s) A B C N := by kernel_rfl
theorem tx_2 (A B C N s : Int) : holdsU (callU (decU 12 13) fnsT 20 3 [ins 2 A B C N s] hT) = E [109, 111, 118, 101] (ins 2 A B C N s) A B C N := by kernel_rfl
theorem tx_3 (A B C N s : Int) : holdsU (callU (decU 12 13) fnsT 20 3 [ins 3 A B C N s] hT) = E [117, 110, 97, 114, 121] (ins 3 A B C N s) A B C N := by kernel_rfl
theorem tx_4 (A B C N s : Int) : holdsU (callU (decU 12 13) fnsT 20 3 [ins 4 A B C N s] hT) = E [98, 105, 110, 97, 114, 121] (ins 4 A B C N s) A B C N := by kernel_rfl
theorem tx_5 (A B C N s : Int) : holdsU (callU (decU 12 13) fnsT 20 3 [ins 5 A B C N s] hT) = E [106, 117, 109, 112] (ins 5 A B C N s) A B C N := by kernel_rfl
theorem tx_6 (A B C N s : Int) : holdsU (callU (decU 12 13) fnsT 20 3 [ins 6 A B C N s] hT) = E [108, 111, 97, 100] (ins 6 A B C N s) A B C N := by kernel_rfl
theorem tx_7 (A B C N s : Int) : holdsU (callU (decU 12 13) fnsT 20 3 [ins 7 A B C N s] hT) = E [108, 111, 97, 100, 97, 116] (ins 7 A B C N s) A B C N := by kernel_rfl
theorem tx_8 (A B C N s : Int) : holdsU (callU (decU 12 13) fnsT 20 3 [ins 8 A B C N s] hT) = E [115, 116, 111, 114, 101] (ins 8 A B C N s) A B C N := by kernel_rfl
theorem tx_9 (A B C N s : Int) : holdsU (callU (decU 12 13) fnsT 20 3 [ins 9 A B C N s] hT) = E [115, 116, 111, 114, 101, 97, 116] (ins 9 A B C N s) A B C N := by kernel_rfl
theorem tx_10 (A B C N s : Int) : holdsU (callU (decU 12 13) fnsT 20 3 [ins 10 A B C N s] hT) = E [98, 114, 97, 110, 99, 104] (ins 10 A B C N s) A B C N := by kernel_rfl
theorem tx_11 (A B C N s : Int) : holdsU (callU (decU 12 13) fnsT 20 3 [ins 11 A B C N s] hT) = E [97, 99, 113, 117, 105, 114, 101] (ins 11 A B C N s) A B C N := by kernel_rfl
theorem tx_12 (A B C N s : Int) : holdsU (callU (decU 12 13) fnsT 20 3 [ins 12 A B C N s] hT) = E [114, 101, 108, 101, 97, 115, 101] (ins 12 A B C N s) A B C N := by kernel_rfl
theorem tx_13 (A B C N s : Int) : holdsU (callU (decU 12 13) fnsT 20 3 [ins 13 A B C N s] hT) = E [114, 101, 97, 100, 97, 99, 113, 117, 105, 114, 101] (ins 13 A B C N s) A B C N := by kernel_rfl
theorem tx_14 (A B C N s : Int) : holdsU (callU (decU 12 13) fnsT 20 3 [ins 14 A B C N s] hT) = E [114, 101, 97, 100, 114, 101, 108, 101, 97, 115, 101] (ins 14 A B C N s) A B C N := by kernel_rfl
theorem tx_15 (A B C N s : Int) : holdsU (callU (decU 12 13) fnsT 20 3 [ins 15 A B C N s] hT) = E [119, 114, 105, 116, 101, 97, 99, 113, 117, 105, 114, 101] (ins 15 A B C N s) A B C N := by kernel_rfl
theorem tx_16 (A B C N s : Int) : holdsU (callU (decU 12 13) fnsT 20 3 [ins 16 A B C N s] hT) = E [119, 114, 105, 116, 101, 114, 101, 108, 101, 97, 115, 101] (ins 16 A B C N s) A B C N := by kernel_rfl
theorem tx_17 (A B C N s : Int) : holdsU (callU (decU 12 13) fnsT 20 3 [ins 17 A B C N s] hT) = E [116, 120, 98, 101, 103, 105, 110] (ins 17 A B C N s) A B C N := by kernel_rfl
theorem tx_18 (A B C N s : Int) : holdsU (callU (decU 12 13) fnsT 20 3 [ins 18 A B C N s] hT) = E [116, 120, 101, 110, 100] (ins 18 A B C N s) A B C N := by kernel_rfl
theorem tx_19 (A B C N s : Int) : holdsU (callU (decU 12 13) fnsT 20 3 [ins 19 A B C N s] hT) = E [97, 116, 111, 109, 105, 99, 98, 101, 103, 105, 110] (ins 19 A B C N s) A B C N := by kernel_rfl
theorem tx_20 (A B C N s : Int) : holdsU (callU (decU 12 13) fnsT 20 3 [ins 20 A B C N s] hT) = E [97, 116, 111, 109, 105, 99, 101, 110, 100] (ins 20 A B C N s) A B C N := by kernel_rfl
theorem tx_21 (A B C N s : Int) : holdsU (callU (decU 12 13) fnsT 20 3 [ins 21 A B C N s] hT) = E [119, 97, 105, 116] (ins 21 A B C N s) A B C N := by kernel_rfl
theorem tx_22 (A B C N s : Int) : holdsU (callU (decU 12 13) fnsT 20 3 [ins 22 A B C N s] hT) = E [110, 111, 116, 105, 102, 121] (ins 22 A B C N s) A B C N := by kernel_rfl
theorem tx_23 (A B C N s : Int) : holdsU (callU (decU 12 13) fnsT 20 3 [ins 23 A B C N s] hT) = E [110, 111, 116, 105, 102, 121, 97, 108, 108] (ins 23 A B C N s) A B C N := by kernel_rfl
theorem tx_24 (A B C N s : Int) : holdsU (callU (decU 12 13) fnsT 20 3 [ins 24 A B C N s] hT) = E [115, 112, 97, 119, 110] (ins 24 A B C N s) A B C N := by kernel_rfl
theorem tx_25 (A B C N s : Int) : holdsU (callU (decU 12 13) fnsT 20 3 [ins 25 A B C N s] hT) = E [106, 111, 105, 110] (ins 25 A B C N s) A B C N := by kernel_rfl
theorem tx_26 (A B C N s : Int) : holdsU (callU (decU 12 13) fnsT 20 3 [ins 26 A B C N s] hT) = E [115, 101, 116] (ins 26 A B C N s) A B C N := by kernel_rfl
theorem tx_27 (A B C N s : Int) : holdsU (callU (decU 12 13) fnsT 20 3 [ins 27 A B C N s] hT) = E [103, 101, 116] (ins 27 A B C N s) A B C N := by kernel_rfl
theorem tx_28 (A B C N s : Int) : holdsU (callU (decU 12 13) fnsT 20 3 [ins 28 A B C N s] hT) = E [101, 110, 100] (ins 28 A B C N s) A B C N := by kernel_rfl
theorem tx_0 (A B C N s : Int) : holdsU (callU (decU 12 13) fnsT 20 3 [ins 0 A B C N s] hT) = E [110, 111, 110, 101] (ins 0 A B C N s) A B C N := by kernel_rfl
theorem tx_neg (j : Nat) (A B C N s : Int) : holdsU (callU (decU 12 13) fnsT 20 3 [ins (.negSucc j) A B C N s] hT) = E [110, 111, 110, 101] (ins (.negSucc j) A B C N s) A B C N := by kernel_rfl
theorem tx_big (j : Nat) (A B C N s : Int) : holdsU (callU (decU 12 13) fnsT 20 3 [ins (.ofNat (j + 29)) A B C N s] hT) = E [110, 111, 110, 101] (ins (.ofNat (j + 29)) A B C N s) A B C N := by kernel_rfl

theorem tx (op A B C N s : Int) (hA : InI64 A) (hB : InI64 B) (hC : InI64 C) (hN : InI64 N) : holdsU (callU (decU 12 13) fnsT 20 3 [ins op A B C N s] hT) := by
  have e : ∀ w i, w.length ≤ 20 → E w i A B C N := fun w i hw => E_holds w i A B C N hw hA hB hC hN
  match op with
  | .negSucc j => rw [tx_neg]; exact e _ _ (by decide)
  | .ofNat 0 => exact (tx_0 A B C N s).symm ▸ e _ _ (by decide)
  | .ofNat 1 => exact (tx_1 A B C N s).symm ▸ e _ _ (by decide)
  | .ofNat 2 => exact (tx_2 A B C N s).symm ▸ e _ _ (by decide)
  | .ofNat 3 => exact (tx_3 A B C N s).symm ▸ e _ _ (by decide)
  | .ofNat 4 => exact (tx_4 A B C N s).symm ▸ e _ _ (by decide)
  | .ofNat 5 => exact (tx_5 A B C N s).symm ▸ e _ _ (by decide)
  | .ofNat 6 => exact (tx_6 A B C N s).symm ▸ e _ _ (by decide)
  | .ofNat 7 => exact (tx_7 A B C N s).symm ▸ e _ _ (by decide)
  | .ofNat 8 => exact (tx_8 A B C N s).symm ▸ e _ _ (by decide)
  | .ofNat 9 => exact (tx_9 A B C N s).symm ▸ e _ _ (by decide)
  | .ofNat 10 => exact (tx_10 A B C N s).symm ▸ e _ _ (by decide)
  | .ofNat 11 => exact (tx_11 A B C N s).symm ▸ e _ _ (by decide)
  | .ofNat 12 => exact (tx_12 A B C N s).symm ▸ e _ _ (by decide)
  | .ofNat 13 => exact (tx_13 A B C N s).symm ▸ e _ _ (by decide)
  | .ofNat 14 => exact (tx_14 A B C N s).symm ▸ e _ _ (by decide)
  | .ofNat 15 => exact (tx_15 A B C N s).symm ▸ e _ _ (by decide)
  | .ofNat 16 => exact (tx_16 A B C N s).symm ▸ e _ _ (by decide)
  | .ofNat 17 => exact (tx_17 A B C N s).symm ▸ e _ _ (by decide)
  | .ofNat 18 => exact (tx_18 A B C N s).symm ▸ e _ _ (by decide)
  | .ofNat 19 => exact (tx_19 A B C N s).symm ▸ e _ _ (by decide)
  | .ofNat 20 => exact (tx_20 A B C N s).symm ▸ e _ _ (by decide)
  | .ofNat 21 => exact (tx_21 A B C N s).symm ▸ e _ _ (by decide)
  | .ofNat 22 => exact (tx_22 A B C N s).symm ▸ e _ _ (by decide)
  | .ofNat 23 => exact (tx_23 A B C N s).symm ▸ e _ _ (by decide)
  | .ofNat 24 => exact (tx_24 A B C N s).symm ▸ e _ _ (by decide)
  | .ofNat 25 => exact (tx_25 A B C N s).symm ▸ e _ _ (by decide)
  | .ofNat 26 => exact (tx_26 A B C N s).symm ▸ e _ _ (by decide)
  | .ofNat 27 => exact (tx_27 A B C N s).symm ▸ e _ _ (by decide)
  | .ofNat 28 => exact (tx_28 A B C N s).symm ▸ e _ _ (by decide)
  | .ofNat (j + 29) => rw [tx_big]; exact e _ _ (by decide)
end Go.Proofs.YtpcinbogdlhndaaDoor.Ai
