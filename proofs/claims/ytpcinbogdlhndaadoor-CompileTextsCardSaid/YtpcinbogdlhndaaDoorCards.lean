/-
  DERIVED. GIVEN WITH THE SEED: THE CARDS: each row of YtpcinbogdlhndaaDoorRows.lean that lists a variable, with what it lists TIED to the program's text (the seventh form; the later family's looks); each row that meets fmt, with fmt's text TOLD by the authors' own Lean function (tested against real Go, not proved from fmt's source: count such statements apart). THE CARD IS WHAT COUNTS. Prove the row's statement (the work); the ties are given (YtpcinbogdlhndaaDoorTie.lean); close each card by the builder's one call (the guide's Derived/Test/ToyasCard.lean, 'card_holds'). Laid BY PROGRAM, IN A SANDBOX (cutbox-door.mjs). By AI agents, Wed Nov 11 2026. No macro, syntax, notation, axiom, sorry.
-/
import Derived.Test.YtpcinbogdlhndaaDoorRows
import GoSem.ClaimSeven
namespace Go.Proofs.YtpcinbogdlhndaaDoor
namespace Rows

/-- THE TIED CARD OF 'interleavelaw06.CompileTexts'. -/
def compileTextsCard : Claim7 := { stood := { row := compileTextsRow, standIns := [], harness := (true, "71eb407b2b76b7314913cece068e09af8b5760a10adb0f4c07cb3cfbd3ed8944"), looks := true }, kinds := [], alts := [], laidByText := true, laidKinds := [.data, .data, .data, .data], laidTests := true, laidLooks := .later }
def CompileTextsCardSaid : Prop := Claim7.holds Tryd.pinned (.plain (OpenSpec.ofChange compileTextsSpec)) compileTextsCard

/-- THE TIED CARD OF 'interleavelaw02.ParsePrecedence'. -/
def parsePrecedenceCard : Claim7 := { stood := { row := parsePrecedenceRow, standIns := [], harness := (true, "71eb407b2b76b7314913cece068e09af8b5760a10adb0f4c07cb3cfbd3ed8944"), looks := true }, kinds := [], alts := [], laidByText := true, laidKinds := [.data, .data, .data, .sentinel, .sentinel], laidTests := true, laidLooks := .later }
def ParsePrecedenceCardSaid : Prop := Claim7.holds Tryd.pinned (.plain (OpenSpec.ofChange parsePrecedenceSpec)) parsePrecedenceCard

/-- THE TIED CARD OF 'interleavelaw02.ParseComparisons'. -/
def parseComparisonsCard : Claim7 := { stood := { row := parseComparisonsRow, standIns := [], harness := (true, "71eb407b2b76b7314913cece068e09af8b5760a10adb0f4c07cb3cfbd3ed8944"), looks := true }, kinds := [], alts := [], laidByText := true, laidKinds := [.data, .data, .data, .sentinel, .sentinel], laidTests := true, laidLooks := .later }
def ParseComparisonsCardSaid : Prop := Claim7.holds Tryd.pinned (.plain (OpenSpec.ofChange parseComparisonsSpec)) parseComparisonsCard

/-- THE SECOND FORM's CARD OF 'interleavelaw06.CompileTexts'. -/
def compileTextsUptoCard : Claim7 := { stood := { row := compileTextsUptoRow, standIns := [], harness := (true, "71eb407b2b76b7314913cece068e09af8b5760a10adb0f4c07cb3cfbd3ed8944"), looks := true }, kinds := [], alts := [], laidByText := true, laidKinds := [.data, .data, .data, .data], laidTests := true, laidLooks := .later }
def CompileTextsUptoCardSaid : Prop := Claim7.holds Tryd.pinned (.plain (OpenSpec.upto compileTextsSpec)) compileTextsUptoCard

/-- THE SECOND FORM's CARD OF 'interleavelaw02.ParsePrecedence'. -/
def parsePrecedenceUptoCard : Claim7 := { stood := { row := parsePrecedenceUptoRow, standIns := [], harness := (true, "71eb407b2b76b7314913cece068e09af8b5760a10adb0f4c07cb3cfbd3ed8944"), looks := true }, kinds := [], alts := [], laidByText := true, laidKinds := [.data, .data, .data, .sentinel, .sentinel], laidTests := true, laidLooks := .later }
def ParsePrecedenceUptoCardSaid : Prop := Claim7.holds Tryd.pinned (.plain (OpenSpec.upto parsePrecedenceSpec)) parsePrecedenceUptoCard

/-- THE SECOND FORM's CARD OF 'interleavelaw02.ParseComparisons'. -/
def parseComparisonsUptoCard : Claim7 := { stood := { row := parseComparisonsUptoRow, standIns := [], harness := (true, "71eb407b2b76b7314913cece068e09af8b5760a10adb0f4c07cb3cfbd3ed8944"), looks := true }, kinds := [], alts := [], laidByText := true, laidKinds := [.data, .data, .data, .sentinel, .sentinel], laidTests := true, laidLooks := .later }
def ParseComparisonsUptoCardSaid : Prop := Claim7.holds Tryd.pinned (.plain (OpenSpec.upto parseComparisonsSpec)) parseComparisonsUptoCard
end Rows
end Go.Proofs.YtpcinbogdlhndaaDoor
