/-
  DERIVED. GIVEN WITH THE SEED: THE CARDS: each row of YtakahhnlbciicaaGreatDoorRows.lean that lists a variable, with what it lists TIED to the program's text (the seventh form; the later family's looks); each row that meets fmt, with fmt's text TOLD by the authors' own Lean function (tested against real Go, not proved from fmt's source: count such statements apart). THE CARD IS WHAT COUNTS. Prove the row's statement (the work); the ties are given (YtakahhnlbciicaaGreatDoorTie.lean); close each card by the builder's one call (the guide's Derived/Test/ToyasCard.lean, 'card_holds'). Laid BY PROGRAM, IN A SANDBOX (cutbox-door.mjs). By AI agents, Wed Nov 11 2026. No macro, syntax, notation, axiom, sorry.
-/
import Derived.Test.YtakahhnlbciicaaGreatDoorRows
import GoSem.ClaimSeven
namespace Go.Proofs.YtakahhnlbciicaaGreatDoor
namespace Rows

/-- THE TIED CARD OF 'interleavelaw04.CheckNames'. -/
def checkNamesCard : Claim7 := { stood := { row := checkNamesRow, standIns := [], harness := (true, "59a20bfdd66fb6ed62437b33e688a4fa0a354211451e54bfea96eb1f53c5b323"), looks := true }, kinds := [], alts := [], laidByText := true, laidKinds := [.data, .data, .data, .sentinel, .sentinel], laidTests := true, laidLooks := .later }
def CheckNamesCardSaid : Prop := Claim7.holds Tryz.pinned (.plain (OpenSpec.ofChange checkNamesSpec)) checkNamesCard

/-- THE TIED CARD OF 'interleavelaw04.CheckNesting'. -/
def checkNestingCard : Claim7 := { stood := { row := checkNestingRow, standIns := [], harness := (true, "59a20bfdd66fb6ed62437b33e688a4fa0a354211451e54bfea96eb1f53c5b323"), looks := true }, kinds := [], alts := [], laidByText := true, laidKinds := [.data, .data, .data, .sentinel, .sentinel], laidTests := true, laidLooks := .later }
def CheckNestingCardSaid : Prop := Claim7.holds Tryz.pinned (.plain (OpenSpec.ofChange checkNestingSpec)) checkNestingCard

/-- THE TIED CARD OF 'interleavelaw04.CheckOnce'. -/
def checkOnceCard : Claim7 := { stood := { row := checkOnceRow, standIns := [], harness := (true, "59a20bfdd66fb6ed62437b33e688a4fa0a354211451e54bfea96eb1f53c5b323"), looks := true }, kinds := [], alts := [], laidByText := true, laidKinds := [.data, .data, .data, .sentinel, .sentinel], laidTests := true, laidLooks := .later }
def CheckOnceCardSaid : Prop := Claim7.holds Tryz.pinned (.plain (OpenSpec.ofChange checkOnceSpec)) checkOnceCard

/-- THE TIED CARD OF 'interleavelaw04.CheckCanonical'. -/
def checkCanonicalCard : Claim7 := { stood := { row := checkCanonicalRow, standIns := [], harness := (true, "59a20bfdd66fb6ed62437b33e688a4fa0a354211451e54bfea96eb1f53c5b323"), looks := true }, kinds := [], alts := [], laidByText := true, laidKinds := [.data, .data, .data, .sentinel, .sentinel], laidTests := true, laidLooks := .later }
def CheckCanonicalCardSaid : Prop := Claim7.holds Tryz.pinned (.plain (OpenSpec.ofChange checkCanonicalSpec)) checkCanonicalCard

/-- THE SECOND FORM's CARD OF 'interleavelaw04.CheckNames'. -/
def checkNamesUptoCard : Claim7 := { stood := { row := checkNamesUptoRow, standIns := [], harness := (true, "59a20bfdd66fb6ed62437b33e688a4fa0a354211451e54bfea96eb1f53c5b323"), looks := true }, kinds := [], alts := [], laidByText := true, laidKinds := [.data, .data, .data, .sentinel, .sentinel], laidTests := true, laidLooks := .later }
def CheckNamesUptoCardSaid : Prop := Claim7.holds Tryz.pinned (.plain (OpenSpec.upto checkNamesSpec)) checkNamesUptoCard

/-- THE SECOND FORM's CARD OF 'interleavelaw04.CheckNesting'. -/
def checkNestingUptoCard : Claim7 := { stood := { row := checkNestingUptoRow, standIns := [], harness := (true, "59a20bfdd66fb6ed62437b33e688a4fa0a354211451e54bfea96eb1f53c5b323"), looks := true }, kinds := [], alts := [], laidByText := true, laidKinds := [.data, .data, .data, .sentinel, .sentinel], laidTests := true, laidLooks := .later }
def CheckNestingUptoCardSaid : Prop := Claim7.holds Tryz.pinned (.plain (OpenSpec.upto checkNestingSpec)) checkNestingUptoCard

/-- THE SECOND FORM's CARD OF 'interleavelaw04.CheckOnce'. -/
def checkOnceUptoCard : Claim7 := { stood := { row := checkOnceUptoRow, standIns := [], harness := (true, "59a20bfdd66fb6ed62437b33e688a4fa0a354211451e54bfea96eb1f53c5b323"), looks := true }, kinds := [], alts := [], laidByText := true, laidKinds := [.data, .data, .data, .sentinel, .sentinel], laidTests := true, laidLooks := .later }
def CheckOnceUptoCardSaid : Prop := Claim7.holds Tryz.pinned (.plain (OpenSpec.upto checkOnceSpec)) checkOnceUptoCard

/-- THE SECOND FORM's CARD OF 'interleavelaw04.CheckCanonical'. -/
def checkCanonicalUptoCard : Claim7 := { stood := { row := checkCanonicalUptoRow, standIns := [], harness := (true, "59a20bfdd66fb6ed62437b33e688a4fa0a354211451e54bfea96eb1f53c5b323"), looks := true }, kinds := [], alts := [], laidByText := true, laidKinds := [.data, .data, .data, .sentinel, .sentinel], laidTests := true, laidLooks := .later }
def CheckCanonicalUptoCardSaid : Prop := Claim7.holds Tryz.pinned (.plain (OpenSpec.upto checkCanonicalSpec)) checkCanonicalUptoCard
end Rows
end Go.Proofs.YtakahhnlbciicaaGreatDoor
