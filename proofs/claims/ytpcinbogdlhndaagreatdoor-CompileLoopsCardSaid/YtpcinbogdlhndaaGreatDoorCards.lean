/-
  DERIVED. GIVEN WITH THE SEED: THE CARDS: each row of YtpcinbogdlhndaaGreatDoorRows.lean that lists a variable, with what it lists TIED to the program's text (the seventh form; the later family's looks); each row that meets fmt, with fmt's text TOLD by the authors' own Lean function (tested against real Go, not proved from fmt's source: count such statements apart). THE CARD IS WHAT COUNTS. Prove the row's statement (the work); the ties are given (YtpcinbogdlhndaaGreatDoorTie.lean); close each card by the builder's one call (the guide's Derived/Test/ToyasCard.lean, 'card_holds'). Laid BY PROGRAM, IN A SANDBOX (cutbox-door.mjs). By AI agents, Wed Nov 11 2026. No macro, syntax, notation, axiom, sorry.
-/
import Derived.Test.YtpcinbogdlhndaaGreatDoorRows
import GoSem.ClaimSeven
namespace Go.Proofs.YtpcinbogdlhndaaGreatDoor
namespace Rows

/-- THE TIED CARD OF 'interleavetop.LockKinds'. -/
def lockKindsCard : Claim7 := { stood := { row := lockKindsRow, standIns := [], harness := (true, "e91ce6a72e2c8ff4a99a1b5c2cd5e341e1f365b0f23e262afe72c1e60dd63b1a"), looks := true }, kinds := [], alts := [], laidByText := true, laidKinds := [.data, .data, .data, .sentinel, .sentinel, .data], laidTests := true, laidLooks := .later }
def LockKindsCardSaid : Prop := Claim7.holds Tryz.pinned (.plain (OpenSpec.ofChange lockKindsSpec)) lockKindsCard

/-- THE TIED CARD OF 'interleavelaw06.CompileLoops'. -/
def compileLoopsCard : Claim7 := { stood := { row := compileLoopsRow, standIns := [], harness := (true, "e91ce6a72e2c8ff4a99a1b5c2cd5e341e1f365b0f23e262afe72c1e60dd63b1a"), looks := true }, kinds := [], alts := [], laidByText := true, laidKinds := [.data, .data, .data, .sentinel, .sentinel], laidTests := true, laidLooks := .later }
def CompileLoopsCardSaid : Prop := Claim7.holds Tryz.pinned (.plain (OpenSpec.ofChange compileLoopsSpec)) compileLoopsCard

/-- THE SECOND FORM's CARD OF 'interleavetop.LockKinds'. -/
def lockKindsUptoCard : Claim7 := { stood := { row := lockKindsUptoRow, standIns := [], harness := (true, "e91ce6a72e2c8ff4a99a1b5c2cd5e341e1f365b0f23e262afe72c1e60dd63b1a"), looks := true }, kinds := [], alts := [], laidByText := true, laidKinds := [.data, .data, .data, .sentinel, .sentinel, .data], laidTests := true, laidLooks := .later }
def LockKindsUptoCardSaid : Prop := Claim7.holds Tryz.pinned (.plain (OpenSpec.upto lockKindsSpec)) lockKindsUptoCard

/-- THE SECOND FORM's CARD OF 'interleavelaw06.CompileLoops'. -/
def compileLoopsUptoCard : Claim7 := { stood := { row := compileLoopsUptoRow, standIns := [], harness := (true, "e91ce6a72e2c8ff4a99a1b5c2cd5e341e1f365b0f23e262afe72c1e60dd63b1a"), looks := true }, kinds := [], alts := [], laidByText := true, laidKinds := [.data, .data, .data, .sentinel, .sentinel], laidTests := true, laidLooks := .later }
def CompileLoopsUptoCardSaid : Prop := Claim7.holds Tryz.pinned (.plain (OpenSpec.upto compileLoopsSpec)) compileLoopsUptoCard
end Rows
end Go.Proofs.YtpcinbogdlhndaaGreatDoor
